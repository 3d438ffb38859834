/-
  CertextCheck: the law returns true whatever the input; machine, functions, plain law (part 25 of 47.)
-/
import Derived.Test.YtadefjgbcapakaaGreatDoorA21
set_option linter.unusedVariables false
set_option linter.unusedSimpArgs false
namespace Go.Proofs.YtadefjgbcapakaaGreatDoor.Vm
open IntKind (i64)
open Go.Proofs
abbrev Yq0:Type:=List (Bs×Int×Bs)
abbrev Yq1:Type:=Int×Bs×List Yq0
abbrev Yq2:Type:=List Yq1×Int×Bool×List Yq0
abbrev Yq3:Type:=List (Bs×Bool×Bs)
abbrev Yq4:Type:=Bool×Bool×Int×Int×List Bs×List Bs×(List (Bs×Bs))×Int×Int×Int×List Yq1×Bool×List Yq1×List Yq1×Bs×Bs×List Yq2×List Yq2×List (Bs×Bool×Bs)
abbrev Yq5:Type:=Bs×Int×Nat×Nat×Nat
abbrev Yq6:Type:=List Yq1×List Yq1
abbrev uX:Type:=Bool
def Ff (N:Nat) (p0:List Yq0):Option uX :=
 bif decide ((p0.length:Int)>12)then(some false)
 else(Ak (X:=Int) (Y:=Unit) (fun t14a k1 x2 =>
 bif decide (t14a<(p0.length:Int))then(chk (decide (0≤t14a)) <|
 chk (decide (t14a<(p0.length:Int))) <|
 let x20:Bool:=decide (((p0.getD t14a.toNat ([]:List (Bs×Int×Bs))).length:Int)>8)
 bif x20 then(some false)
 else(Ak (X:=Int) (Y:=Unit) (fun t23b k3 x4 =>
 let x24:Bool:=decide (t23b<((p0.getD t14a.toNat ([]:List (Bs×Int×Bs))).length:Int))
 bif x24 then(chk (decide (0≤t23b)) <|
 chk (decide (t23b<((p0.getD t14a.toNat ([]:List (Bs×Int×Bs))).length:Int))) <|
 let x28:Bs:=((p0.getD t14a.toNat ([]:List (Bs×Int×Bs))).getD t23b.toNat (([]:Bs),0,([]:Bs))).1
 chk ((!(decide ((x28.length:Int)>200)))||(!(!(decide ((x28.length:Int)>200))))) <|
 let x33:Bs:=((p0.getD t14a.toNat ([]:List (Bs×Int×Bs))).getD t23b.toNat (([]:Bs),0,([]:Bs))).2.2
 chk ((!(decide ((x28.length:Int)>200)))||(!(!(decide ((x28.length:Int)>200))))) <|
 chk ((!(decide ((x28.length:Int)>200)))||(!(!(decide ((x28.length:Int)>200))))) <|
 chk (bif decide ((x28.length:Int)>200)then true else !(decide ((x28.length:Int)>200))) <|
 chk (bif decide ((x28.length:Int)>200)then true else true) <|
 let x36:Bool:=bif decide ((x28.length:Int)>200)then true else decide ((x33.length:Int)>200)
 bif x36 then(some false)
 else(k3 (i64.wrap (t23b+1))))
 else(x4 ()))
 N 0 (fun _ =>
 k1 (i64.wrap (t14a+1)))))
 else(x2 ()))
 N 0 (fun _ =>
 some true))
abbrev oI:Type:=Bool
def Dp (N:Nat) (p0:List Yq1):Option oI :=
 bif decide ((p0.length:Int)>20)then(some false)
 else(Ak (X:=Int) (Y:=Unit) (fun t10a k1 x2 =>
 bif decide (t10a<(p0.length:Int))then(chk (decide (0≤t10a)) <|
 chk (decide (t10a<(p0.length:Int))) <|
 let x16:Int:=(((p0.getD t10a.toNat (0,([]:Bs),([]:List Yq0))).2.1).length:Int)
 chk ((!(decide (x16>300)))||(!(!(decide (x16>300))))) <|
 chk ((!(decide (x16>300)))||(!(!(decide (x16>300))))) <|
 chk (((Ff N ((p0.getD t10a.toNat (0,([]:Bs),([]:List Yq0))).2.2)).isSome)||(!(!(decide (x16>300))))) <|
 let r21:=(Ff N ((p0.getD t10a.toNat (0,([]:Bs),([]:List Yq0))).2.2)).getD default
 chk ((!(decide (x16>300)))||(!(!(decide (x16>300))))) <|
 chk (bif decide (x16>300)then true else !(decide (x16>300))) <|
 chk (bif decide (x16>300)then true else true) <|
 bif bif decide (x16>300)then true else !r21 then(some false)
 else(k1 (i64.wrap (t10a+1))))
 else(x2 ()))
 N 0 (fun _ =>
 some true))
abbrev jF:Type:=Bool
def Fg (N:Nat) (p0:List Yq2):Option jF :=
 bif decide ((p0.length:Int)>6)then(some false)
 else(Ak (X:=Int) (Y:=Unit) (fun t10a k1 x2 =>
 bif decide (t10a<(p0.length:Int))then(chk (decide (0≤t10a)) <|
 chk (decide (t10a<(p0.length:Int))) <|
 Ad (Dp N ((p0.getD t10a.toNat (([]:List Yq1),0,false,([]:List Yq0))).1)) fun r16 =>
 chk ((!!r16)||(!(!!r16))) <|
 chk ((!!r16)||(!(!!r16))) <|
 chk (((Ff N ((p0.getD t10a.toNat (([]:List Yq1),0,false,([]:List Yq0))).2.2.2)).isSome)||(!(!!r16))) <|
 let r21:=(Ff N ((p0.getD t10a.toNat (([]:List Yq1),0,false,([]:List Yq0))).2.2.2)).getD default
 chk ((!!r16)||(!(!!r16))) <|
 chk (bif !r16 then true else !(!r16)) <|
 chk (bif !r16 then true else true) <|
 bif bif !r16 then true else !r21 then(some false)
 else(k1 (i64.wrap (t10a+1))))
 else(x2 ()))
 N 0 (fun _ =>
 some true))
abbrev WT:Type:=Bool
def E5 (N:Nat) (p0:Yq3):Option WT :=
 bif decide ((p0.length:Int)>30)then(some false)
 else(Ak (X:=Int) (Y:=Unit) (fun t10a k1 x2 =>
 bif decide (t10a<(p0.length:Int))then(chk (decide (0≤t10a)) <|
 chk (decide (t10a<(p0.length:Int))) <|
 let x17:Bool:=decide ((((p0.getD t10a.toNat (([]:Bs),false,([]:Bs))).1).length:Int)>200)
 chk (!x17|| !!x17) <|
 chk (!x17|| !!x17) <|
 let x21:Int:=(((p0.getD t10a.toNat (([]:Bs),false,([]:Bs))).2.2).length:Int)
 chk (!x17|| !!x17) <|
 chk (bif x17 then true else !x17) <|
 chk (bif x17 then true else true) <|
 bif bif x17 then true else decide (x21>300)then(some false)
 else(k1 (i64.wrap (t10a+1))))
 else(x2 ()))
 N 0 (fun _ =>
 some true))
abbrev AiL:Type:=Bool
def NW (N:Nat) (p0:List Bs) (p1:Int) (p2:Int):Option AiL :=
 bif decide ((p0.length:Int)>p1)then(some false)
 else(Ak (X:=Int) (Y:=Unit) (fun t15a k1 x2 =>
 bif decide (t15a<(p0.length:Int))then(chk (decide (0≤t15a)) <|
 chk (decide (t15a<(p0.length:Int))) <|
 bif decide (((p0.getD t15a.toNat ([]:Bs)).length:Int)>p2)then(some false)
 else(k1 (i64.wrap (t15a+1))))
 else(x2 ()))
 N 0 (fun _ =>
 some true))
abbrev uU:Type:=Bool
def LQ (N:Nat) (p0:Yq4):Option uU :=
 Ad (NW N p0.2.2.2.2.1 12 200) fun r7 =>
 Af (!r7) fun b1 =>
 chk (!b1|| !!b1) <|
 chk (!b1|| !!b1) <|
 chk (((NW N p0.2.2.2.2.2.1 12 200).isSome)||(!!b1)) <|
 let r12:=(NW N p0.2.2.2.2.2.1 12 200).getD default
 chk (!b1|| !!b1) <|
 chk (bif b1 then true else !b1) <|
 chk (bif b1 then true else true) <|
 Af (bif b1 then true else !r12) fun b2 =>
 Af (b2) fun b3 =>
 chk (!b3|| !!b3) <|
 chk (!b3|| !!b3) <|
 chk (!b3|| !!b3) <|
 chk (bif b3 then true else !b3) <|
 chk (bif b3 then true else true) <|
 Af (bif b3 then true else decide ((p0.2.2.2.2.2.2.1.length:Int)>12)) fun b4 =>
 Af (b4) fun b5 =>
 chk (!b5|| !!b5) <|
 chk (!b5|| !!b5) <|
 chk (((Dp N p0.2.2.2.2.2.2.2.2.2.2.1).isSome)||(!!b5)) <|
 let r24:=(Dp N p0.2.2.2.2.2.2.2.2.2.2.1).getD default
 chk (!b5|| !!b5) <|
 chk (bif b5 then true else !b5) <|
 chk (bif b5 then true else true) <|
 Af (bif b5 then true else !r24) fun b6 =>
 Af (b6) fun b7 =>
 chk (!b7|| !!b7) <|
 chk (!b7|| !!b7) <|
 chk (!b7|| !!b7) <|
 chk (((Dp N p0.2.2.2.2.2.2.2.2.2.2.2.2.1).isSome)||(!!b7)) <|
 let r31:=(Dp N p0.2.2.2.2.2.2.2.2.2.2.2.2.1).getD default
 chk (!b7|| !!b7) <|
 chk (bif b7 then true else !b7) <|
 chk (bif b7 then true else true) <|
 Af (bif b7 then true else !r31) fun b8 =>
 Af (b8) fun b9 =>
 chk (!b9|| !!b9) <|
 chk (!b9|| !!b9) <|
 chk (!b9|| !!b9) <|
 chk (((Dp N p0.2.2.2.2.2.2.2.2.2.2.2.2.2.1).isSome)||(!!b9)) <|
 let r38:=(Dp N p0.2.2.2.2.2.2.2.2.2.2.2.2.2.1).getD default
 chk (!b9|| !!b9) <|
 chk (bif b9 then true else !b9) <|
 chk (bif b9 then true else true) <|
 Af (bif b9 then true else !r38) fun b10 =>
 Af (b10) fun b11 =>
 chk (!b11|| !!b11) <|
 chk (!b11|| !!b11) <|
 chk (!b11|| !!b11) <|
 chk (bif b11 then true else !b11) <|
 chk (bif b11 then true else true) <|
 Af (bif b11 then true else decide ((p0.2.2.2.2.2.2.2.2.2.2.2.2.2.2.1.length:Int)>100)) fun b12 =>
 Af (b12) fun b13 =>
 chk (!b13|| !!b13) <|
 chk (!b13|| !!b13) <|
 chk (!b13|| !!b13) <|
 let x51:Bool:=decide ((p0.2.2.2.2.2.2.2.2.2.2.2.2.2.2.2.1.length:Int)>100)
 chk (bif b13 then true else !b13) <|
 chk (bif b13 then true else true) <|
 Af (bif b13 then true else x51) fun b14 =>
 bif b14 then(some false)
 else(Ak (X:=Int×Bool×Bool×Int×Int×List Bs×List Bs×(List (Bs×Bs))×Int×Int×Int×List Yq1×Bool×List Yq1×List Yq1×Bs×Bs×List Yq2×List Yq2×List (Bs×Bool×Bs)) (Y:=(Bool×Bool×Int×Int×List Bs×List Bs×(List (Bs×Bs))×Int×Int×Int×List Yq1×Bool×List Yq1×List Yq1×Bs×Bs×List Yq2×List Yq2×List (Bs×Bool×Bs))) (U20 fun t56a b33024_0a b33024_1a b33024_2a b33024_3a b33024_4a b33024_5a b33024_6a b33024_7a b33024_8a b33024_9a b33024_10a b33024_11a b33024_12a b33024_13a b33024_14a b33024_15a b33024_16a b33024_17a b33024_18a k15 x16 =>
 bif decide (t56a<(p0.2.2.2.2.2.2.1.length:Int))then(chk (decide (0≤t56a)) <|
 chk (decide (t56a<(p0.2.2.2.2.2.2.1.length:Int))) <|
 let x62:Int:=(((p0.2.2.2.2.2.2.1.getD t56a.toNat (([]:Bs),([]:Bs))).1).length:Int)
 chk ((!(decide (x62>200)))||(!(!(decide (x62>200))))) <|
 chk ((!(decide (x62>200)))||(!(!(decide (x62>200))))) <|
 let x67:Int:=(((p0.2.2.2.2.2.2.1.getD t56a.toNat (([]:Bs),([]:Bs))).2).length:Int)
 chk ((!(decide (x62>200)))||(!(!(decide (x62>200))))) <|
 chk (bif decide (x62>200)then true else !(decide (x62>200))) <|
 chk (bif decide (x62>200)then true else true) <|
 let x69:Bool:=bif decide (x62>200)then true else decide (x67>200)
 bif x69 then(some false)
 else(k15 (i64.wrap (t56a+1),b33024_0a,b33024_1a,b33024_2a,b33024_3a,b33024_4a,b33024_5a,b33024_6a,b33024_7a,b33024_8a,b33024_9a,b33024_10a,b33024_11a,b33024_12a,b33024_13a,b33024_14a,b33024_15a,b33024_16a,b33024_17a,b33024_18a)))
 else(x16 (b33024_0a,b33024_1a,b33024_2a,b33024_3a,b33024_4a,b33024_5a,b33024_6a,b33024_7a,b33024_8a,b33024_9a,b33024_10a,b33024_11a,b33024_12a,b33024_13a,b33024_14a,b33024_15a,b33024_16a,b33024_17a,b33024_18a)))
 N (0,p0.1,p0.2.1,p0.2.2.1,p0.2.2.2.1,p0.2.2.2.2.1,p0.2.2.2.2.2.1,p0.2.2.2.2.2.2.1,p0.2.2.2.2.2.2.2.1,p0.2.2.2.2.2.2.2.2.1,p0.2.2.2.2.2.2.2.2.2.1,p0.2.2.2.2.2.2.2.2.2.2.1,p0.2.2.2.2.2.2.2.2.2.2.2.1,p0.2.2.2.2.2.2.2.2.2.2.2.2.1,p0.2.2.2.2.2.2.2.2.2.2.2.2.2.1,p0.2.2.2.2.2.2.2.2.2.2.2.2.2.2.1,p0.2.2.2.2.2.2.2.2.2.2.2.2.2.2.2.1,p0.2.2.2.2.2.2.2.2.2.2.2.2.2.2.2.2.1,p0.2.2.2.2.2.2.2.2.2.2.2.2.2.2.2.2.2.1,p0.2.2.2.2.2.2.2.2.2.2.2.2.2.2.2.2.2.2) (U19 fun b33024_0b b33024_1b b33024_2b b33024_3b b33024_4b b33024_5b b33024_6b b33024_7b b33024_8b b33024_9b b33024_10b b33024_11b b33024_12b b33024_13b b33024_14b b33024_15b b33024_16b b33024_17b b33024_18b =>
 Ad (Fg N b33024_16b) fun r73 =>
 chk (r73||(!r73)) <|
 chk (r73||(!r73)) <|
 chk (((Fg N b33024_17b).isSome)||(!r73)) <|
 let r77:=(Fg N b33024_17b).getD default
 chk (bif r73 then r73 else true) <|
 chk (bif r73 then true else true) <|
 chk ((bif r73 then r77 else false)||(!(bif r73 then r77 else false))) <|
 chk ((bif r73 then r77 else false)||(!(bif r73 then r77 else false))) <|
 chk (((E5 N b33024_18b).isSome)||(!(bif r73 then r77 else false))) <|
 let r82:=(E5 N b33024_18b).getD default
 chk (bif bif r73 then r77 else false then bif r73 then r77 else false else true) <|
 chk (bif bif r73 then r77 else false then true else true) <|
 some (bif bif r73 then r77 else false then r82 else false)))
abbrev Ak7:Type:=Int
def XY (N:Nat) (p0:Bs):Option Ak7 :=
 Af (p0==([]:Bs)) fun b1 =>
 chk (!b1|| !!b1) <|
 chk (!b1|| !!b1) <|
 chk (bif b1 then true else !b1) <|
 chk (bif b1 then true else true) <|
 Af (bif b1 then true else decide ((p0.length:Int)>10)) fun b2 =>
 Af (b2) fun b3 =>
 chk (!b3|| !!b3) <|
 chk ((decide (0<(p0.length:Int)))||(!!b3)) <|
 chk (!b3|| !!b3) <|
 chk (!b3|| !!b3) <|
 Af (((p0.getD 0 0).toNat:Int)==48) fun b4 =>
 chk (((!b3)&&b4)||(!((!b3)&&b4))) <|
 chk (((!b3)&&b4)||(!((!b3)&&b4))) <|
 chk (!b3|| !!b3) <|
 chk ((bif b4 then((!b3)&&b4)else true)||(!!b3)) <|
 chk ((bif b4 then true else true)||(!!b3)) <|
 Af (bif b4 then decide ((p0.length:Int)>1)else false) fun b5 =>
 chk (bif b3 then true else !b3) <|
 chk (bif b3 then true else true) <|
 Af (bif b3 then true else b5) fun b6 =>
 bif b6 then(some (-1))
 else(Ak (X:=Int×Int) (Y:=Int) (U2 fun t3a t4a k7 x8 =>
 bif decide (t4a<(p0.length:Int))then(chk (decide (0≤t4a)) <|
 chk (decide (t4a<(p0.length:Int))) <|
 chk ((!(decide (((p0.getD t4a.toNat 0).toNat:Int)<48)))||(!(!(decide (((p0.getD t4a.toNat 0).toNat:Int)<48))))) <|
 chk ((!(decide (((p0.getD t4a.toNat 0).toNat:Int)<48)))||(!(!(decide (((p0.getD t4a.toNat 0).toNat:Int)<48))))) <|
 chk ((decide (0≤t4a))||(!(!(decide (((p0.getD t4a.toNat 0).toNat:Int)<48))))) <|
 chk ((decide (t4a<(p0.length:Int)))||(!(!(decide (((p0.getD t4a.toNat 0).toNat:Int)<48))))) <|
 chk ((!(decide (((p0.getD t4a.toNat 0).toNat:Int)<48)))||(!(!(decide (((p0.getD t4a.toNat 0).toNat:Int)<48))))) <|
 chk (bif decide (((p0.getD t4a.toNat 0).toNat:Int)<48)then true else !(decide (((p0.getD t4a.toNat 0).toNat:Int)<48))) <|
 chk (bif decide (((p0.getD t4a.toNat 0).toNat:Int)<48)then true else true) <|
 let x37:Bool:=bif decide (((p0.getD t4a.toNat 0).toNat:Int)<48)then true else decide (((p0.getD t4a.toNat 0).toNat:Int)>57)
 bif x37 then(some (-1))
 else(chk (decide (0≤t4a)) <|
 chk (decide (t4a<(p0.length:Int))) <|
 let x44:Int:=i64.wrap (IntKind.u8.wrap (((p0.getD t4a.toNat 0).toNat:Int) - 48))
 k7 (i64.wrap ((i64.wrap ((10:Int)*t3a))+x44),i64.wrap (t4a+1))))
 else(x8 t3a))
 N (0,0) (fun t3b =>
 bif decide (t3b>2147483647)then(some (-1))
 else(some t3b)))
abbrev Aja:Type:=Bool
def Zu (N:Nat) (p0:Int) (p1:Int):Option Aja :=
 chk ((decide (p0≤1))||(!(decide (p0≤1)))) <|
 chk (bif decide (p0≤1)then decide (p0≤1)else true) <|
 chk (bif decide (p0≤1)then true else true) <|
 chk ((!(bif decide (p0≤1)then decide (p1≤39)else false))||(!(!(bif decide (p0≤1)then decide (p1≤39)else false)))) <|
 chk (bif bif decide (p0≤1)then decide (p1≤39)else false then true else !(bif decide (p0≤1)then decide (p1≤39)else false)) <|
 chk (bif bif decide (p0≤1)then decide (p1≤39)else false then true else true) <|
 let x14:Bool:=bif bif decide (p0≤1)then decide (p1≤39)else false then true else(p0==2)
 some x14
abbrev AiY:Type:=List Int
def UG (N:Nat) (p0:Bs):Option AiY :=
 Ad (strings_Split N p0 ([46]:Bs)) fun r9 =>
 chk ((!(decide ((r9.length:Int)<2)))||(!(!(decide ((r9.length:Int)<2))))) <|
 chk ((!(decide ((r9.length:Int)<2)))||(!(!(decide ((r9.length:Int)<2))))) <|
 chk (bif decide ((r9.length:Int)<2)then true else !(decide ((r9.length:Int)<2))) <|
 chk (bif decide ((r9.length:Int)<2)then true else true) <|
 let x17:Bool:=bif decide ((r9.length:Int)<2)then true else decide ((r9.length:Int)>12)
 bif x17 then(some ([]:List Int))
 else(Ak (X:=Int×List Int) (Y:=(List Int)) (U2 fun t20a l1000000a k1 x2 =>
 bif decide (t20a<(r9.length:Int))then(chk (decide (0≤t20a)) <|
 chk (decide (t20a<(r9.length:Int))) <|
 Ad (XY N (r9.getD t20a.toNat ([]:Bs))) fun r25 =>
 bif decide (r25<0)then(some ([]:List Int))
 else(chk (decide ((l1000000a.length+1)*9≤140737488355328)) <|
 k1 (i64.wrap (t20a+1),l1000000a++([r25]:List Int))))
 else(x2 l1000000a))
 N (0,([]:List Int)) (fun l1004096b =>
 chk (decide (0<(l1004096b.length:Int))) <|
 chk (decide (0<l1004096b.length)) <|
 chk (decide (1<(l1004096b.length:Int))) <|
 chk (decide (1<l1004096b.length)) <|
 Ad (Zu N (l1004096b.getD 0 0) (l1004096b.getD 1 0)) fun r39 =>
 bif !r39 then(some ([]:List Int))
 else(chk (decide (0<l1004096b.length)) <|
 some l1004096b)))
abbrev AgJ:Type:=Bool
def Gw (N:Nat) (p0:Bs):Option AgJ :=
 Ad (UG N p0) fun r4 =>
 some (!r4.isEmpty)
abbrev AdM:Type:=Bool
def rE (N:Nat) (p0:Int):Option AdM :=
 Af (decide (p0≥97)) fun b1 =>
 chk (b1||(!b1)) <|
 chk (bif b1 then b1 else true) <|
 chk (bif b1 then true else true) <|
 Af (bif b1 then decide (p0≤122)else false) fun b2 =>
 Af (b2) fun b3 =>
 chk (!b3|| !!b3) <|
 chk (!b3|| !!b3) <|
 Af (decide (p0≥65)) fun b4 =>
 chk (((!b3)&&b4)||(!((!b3)&&b4))) <|
 chk (!b3|| !!b3) <|
 chk ((bif b4 then((!b3)&&b4)else true)||(!!b3)) <|
 chk ((bif b4 then true else true)||(!!b3)) <|
 Af (bif b4 then decide (p0≤90)else false) fun b5 =>
 chk (bif b3 then true else !b3) <|
 chk (bif b3 then true else true) <|
 Af (bif b3 then true else b5) fun b6 =>
 Af (b6) fun b7 =>
 chk (!b7|| !!b7) <|
 chk (!b7|| !!b7) <|
 Af (decide (p0≥48)) fun b8 =>
 chk (((!b7)&&b8)||(!((!b7)&&b8))) <|
 chk (!b7|| !!b7) <|
 chk ((bif b8 then((!b7)&&b8)else true)||(!!b7)) <|
 chk ((bif b8 then true else true)||(!!b7)) <|
 Af (bif b8 then decide (p0≤57)else false) fun b9 =>
 chk (bif b7 then true else !b7) <|
 chk (bif b7 then true else true) <|
 Af (bif b7 then true else b9) fun b10 =>
 some b10
abbrev AbH:Type:=Bool
def Jh (N:Nat) (p0:Int):Option AbH :=
 Ad (rE N p0) fun r4 =>
 chk (!r4|| !!r4) <|
 chk (((strings_IndexByte N ([32,39,40,41,43,44,45,46,47,58,61,63]:Bs) p0).isSome)||(!!r4)) <|
 let r7:=(strings_IndexByte N ([32,39,40,41,43,44,45,46,47,58,61,63]:Bs) p0).getD default
 chk (!r4|| !!r4) <|
 chk (bif r4 then true else !r4) <|
 chk (bif r4 then true else true) <|
 some (bif r4 then true else decide (r7≥0))
abbrev AbJ:Type:=Bool
def Ji (N:Nat) (p0:Int):Option AbJ :=
 chk ((decide (p0≥32))||(!(decide (p0≥32)))) <|
 chk (bif decide (p0≥32)then decide (p0≥32)else true) <|
 chk (bif decide (p0≥32)then true else true) <|
 some (bif decide (p0≥32)then decide (p0≤126)else false)
def mO (N n:Nat) (a:Int):Option (Bool) :=
  bif Nat.beq n 286 then Jh N a else
  bif Nat.beq n 289 then Ji N a else
  none
abbrev Aju:Type:=Bool
def Oj (N:Nat) (p0:Bs) (p1:Nat):Option Aju :=
 Ak (X:=Int) (Y:=Unit) (fun t5a k1 x2 =>
 bif decide (t5a<(p0.length:Int))then(chk (decide (0≤t5a)) <|
 chk (decide (t5a<(p0.length:Int))) <|
 Ad (mO N p1 ((p0.getD t5a.toNat 0).toNat:Int)) fun r16 =>
 bif !r16 then(some false)
 else(k1 (i64.wrap (t5a+1))))
 else(x2 ()))
 N 0 (fun _ =>
 some true)
abbrev Agi:Type:=Bool
def J8 (N:Nat) (p0:Int) (p1:Bs):Option Agi :=
 bif (p0==12)then(Ad (ZZ N p1) fun r9 =>
 some r9)
 else(bif (p0==19)then(Ad (Oj N p1 286) fun r13 =>
 some r13)
 else(bif (p0==22)then(Ad (Oj N p1 289) fun r17 =>
 some r17)
 else(some false)))
abbrev XF:Type:=Int
def ER (N:Nat) (p0:Yq0):Option XF :=
 bif ((p0.length:Int)==0)then(some 14)
 else(bif decide ((p0.length:Int)>4)then(some 2)
 else(Ak (X:=Int) (Y:=Unit) (fun t15a k1 x2 =>
 bif decide (t15a<(p0.length:Int))then(chk (decide (0≤t15a)) <|
 chk (decide (t15a<(p0.length:Int))) <|
 Ad (Gw N ((p0.getD t15a.toNat (([]:Bs),0,([]:Bs))).1)) fun r22 =>
 bif !r22 then(some 11)
 else(chk ((!(((p0.getD t15a.toNat (([]:Bs),0,([]:Bs))).2.2)==([]:Bs)))||(!(!(((p0.getD t15a.toNat (([]:Bs),0,([]:Bs))).2.2)==([]:Bs))))) <|
 chk ((!(((p0.getD t15a.toNat (([]:Bs),0,([]:Bs))).2.2)==([]:Bs)))||(!(!(((p0.getD t15a.toNat (([]:Bs),0,([]:Bs))).2.2)==([]:Bs))))) <|
 chk ((!(((p0.getD t15a.toNat (([]:Bs),0,([]:Bs))).2.2)==([]:Bs)))||(!(!(((p0.getD t15a.toNat (([]:Bs),0,([]:Bs))).2.2)==([]:Bs))))) <|
 chk ((!(((p0.getD t15a.toNat (([]:Bs),0,([]:Bs))).2.2)==([]:Bs)))||(!(!(((p0.getD t15a.toNat (([]:Bs),0,([]:Bs))).2.2)==([]:Bs))))) <|
 chk (((J8 N ((p0.getD t15a.toNat (([]:Bs),0,([]:Bs))).2.1) ((p0.getD t15a.toNat (([]:Bs),0,([]:Bs))).2.2)).isSome)||(!(!(((p0.getD t15a.toNat (([]:Bs),0,([]:Bs))).2.2)==([]:Bs))))) <|
 let r32:=(J8 N ((p0.getD t15a.toNat (([]:Bs),0,([]:Bs))).2.1) ((p0.getD t15a.toNat (([]:Bs),0,([]:Bs))).2.2)).getD default
 chk ((!(((p0.getD t15a.toNat (([]:Bs),0,([]:Bs))).2.2)==([]:Bs)))||(!(!(((p0.getD t15a.toNat (([]:Bs),0,([]:Bs))).2.2)==([]:Bs))))) <|
 chk (bif (((p0.getD t15a.toNat (([]:Bs),0,([]:Bs))).2.2)==([]:Bs))then true else !(((p0.getD t15a.toNat (([]:Bs),0,([]:Bs))).2.2)==([]:Bs))) <|
 chk (bif (((p0.getD t15a.toNat (([]:Bs),0,([]:Bs))).2.2)==([]:Bs))then true else true) <|
 let x34:Bool:=bif (((p0.getD t15a.toNat (([]:Bs),0,([]:Bs))).2.2)==([]:Bs))then true else !r32
 bif x34 then(some 13)
 else(let x38:Bool:=decide ((((p0.getD t15a.toNat (([]:Bs),0,([]:Bs))).2.2).length:Int)>64)
 bif x38 then(some 2)
 else(chk (decide (0≤t15a)) <|
 chk (decide (t15a≤(p0.length:Int))) <|
 Ak (X:=Int×Bs×Int×Bs) (Y:=Unit) (U4 fun t43b b33792_0b b33792_1b b33792_2b k3 x4 =>
 bif decide (t43b<((AO p0 0 t15a.toNat).length:Int))then(chk (decide (0≤t43b)) <|
 chk (decide (t43b<((AO p0 0 t15a.toNat).length:Int))) <|
 let x51:Bool:=((((AO p0 0 t15a.toNat).getD t43b.toNat (([]:Bs),0,([]:Bs))).1)==b33792_0b)
 bif x51 then(some 10)
 else(k3 (i64.wrap (t43b+1),b33792_0b,b33792_1b,b33792_2b)))
 else(x4 ()))
 N (0,(p0.getD t15a.toNat (([]:Bs),0,([]:Bs))).1,(p0.getD t15a.toNat (([]:Bs),0,([]:Bs))).2.1,(p0.getD t15a.toNat (([]:Bs),0,([]:Bs))).2.2) (fun _ =>
 k1 (i64.wrap (t15a+1)))))))
 else(x2 ()))
 N 0 (fun _ =>
 some 0)))
abbrev AcJ:Type:=Int
def Iz (N:Nat) (p0:List Yq0):Option AcJ :=
 bif decide ((p0.length:Int)>8)then(some 2)
 else(Ak (X:=Int) (Y:=Unit) (fun t13a k1 x2 =>
 bif decide (t13a<(p0.length:Int))then(chk (decide (0≤t13a)) <|
 chk (decide (t13a<(p0.length:Int))) <|
 Ad (ER N (p0.getD t13a.toNat ([]:List (Bs×Int×Bs)))) fun r18 =>
 bif (r18 != 0)then(some r18)
 else(k1 (i64.wrap (t13a+1))))
 else(x2 ()))
 N 0 (fun _ =>
 some 0))
abbrev Aiy:Type:=Int
def uD (N:Nat) (p0:Int):Option Aiy :=
 bif (p0==1)then(some 0)
 else(bif (p0==2)then(some 1)
 else(bif (p0==4)then(some 2)
 else(bif (p0==7)then(some 3)
 else(some 4))))
abbrev AcU:Type:=Bool
def I5 (N:Nat) (p0:Int):Option AcU :=
 Af (decide (p0≥97)) fun b1 =>
 chk (b1||(!b1)) <|
 chk (bif b1 then b1 else true) <|
 chk (bif b1 then true else true) <|
 Af (bif b1 then decide (p0≤122)else false) fun b2 =>
 Af (b2) fun b3 =>
 chk (!b3|| !!b3) <|
 chk (!b3|| !!b3) <|
 Af (decide (p0≥65)) fun b4 =>
 chk (((!b3)&&b4)||(!((!b3)&&b4))) <|
 chk (!b3|| !!b3) <|
 chk ((bif b4 then((!b3)&&b4)else true)||(!!b3)) <|
 chk ((bif b4 then true else true)||(!!b3)) <|
 Af (bif b4 then decide (p0≤90)else false) fun b5 =>
 chk (bif b3 then true else !b3) <|
 chk (bif b3 then true else true) <|
 Af (bif b3 then true else b5) fun b6 =>
 some b6
abbrev AeZ:Type:=Bool
def Ie (N:Nat) (p0:Int):Option AeZ :=
 chk ((decide (p0≥48))||(!(decide (p0≥48)))) <|
 chk (bif decide (p0≥48)then decide (p0≥48)else true) <|
 chk (bif decide (p0≥48)then true else true) <|
 some (bif decide (p0≥48)then decide (p0≤57)else false)
abbrev Afb:Type:=Bool
def TB (N:Nat) (p0:Bs):Option Afb :=
 Af (decide ((p0.length:Int)<1)) fun b1 =>
 chk (!b1|| !!b1) <|
 chk (!b1|| !!b1) <|
 chk (bif b1 then true else !b1) <|
 chk (bif b1 then true else true) <|
 Af (bif b1 then true else decide ((p0.length:Int)>63)) fun b2 =>
 Af (b2) fun b3 =>
 chk (!b3|| !!b3) <|
 chk ((decide (0<(p0.length:Int)))||(!!b3)) <|
 chk (!b3|| !!b3) <|
 chk (bif b3 then true else !b3) <|
 chk (bif b3 then true else true) <|
 Af (bif b3 then true else(((p0.getD 0 0).toNat:Int)==45)) fun b4 =>
 Af (b4) fun b5 =>
 chk (!b5|| !!b5) <|
 chk (!b5|| !!b5) <|
 chk (!b5|| !!b5) <|
 chk (!b5|| !!b5) <|
 chk ((decide (0≤i64.wrap ((p0.length:Int) - 1)))||(!!b5)) <|
 chk ((decide (i64.wrap ((p0.length:Int) - 1)<(p0.length:Int)))||(!!b5)) <|
 let x23:Int:=((p0.getD ((i64.wrap ((p0.length:Int) - 1)).toNat) 0).toNat:Int)
 chk (!b5|| !!b5) <|
 chk (bif b5 then true else !b5) <|
 chk (bif b5 then true else true) <|
 Af (bif b5 then true else(x23==45)) fun b6 =>
 bif b6 then(some false)
 else(chk (decide (p0.length≤140737488355328)) <|
 Ak (X:=Int×List Int) (Y:=Unit) (U2 fun t29a l39680a k7 x8 =>
 let x30:Bool:=decide (t29a<((List.map (fun(b:UInt8)=>(b.toNat:Int)) p0).length:Int))
 bif x30 then(chk (decide (0≤t29a)) <|
 chk (decide (t29a<(l39680a.length:Int))) <|
 chk (decide (t29a.toNat<l39680a.length)) <|
 Ad (I5 N (l39680a.getD t29a.toNat 0)) fun r34 =>
 chk (!r34|| !!r34) <|
 chk (((Ie N (l39680a.getD t29a.toNat 0)).isSome)||(!!r34)) <|
 let r38:=(Ie N (l39680a.getD t29a.toNat 0)).getD default
 chk (!r34|| !!r34) <|
 chk (bif !r34 then !r34 else true) <|
 chk (bif !r34 then true else true) <|
 chk ((bif !r34 then !r38 else false)||(!(bif !r34 then !r38 else false))) <|
 chk (bif bif !r34 then !r38 else false then bif !r34 then !r38 else false else true) <|
 chk (bif bif !r34 then !r38 else false then true else true) <|
 let x44:Bool:=bif bif !r34 then !r38 else false then((l39680a.getD t29a.toNat 0) != 45)else false
 bif x44 then(some false)
 else(k7 (i64.wrap (t29a+1),l39680a)))
 else(x8 ()))
 N (0,List.map (fun(b:UInt8)=>(b.toNat:Int)) p0) (fun _ =>
 some true))
abbrev Ai3:Type:=Bool
def Gg (N:Nat) (p0:Bs):Option Ai3 :=
 bif decide ((p0.length:Int)>128)then(some false)
 else(Ad (strings_Split N p0 ([46]:Bs)) fun r9 =>
 Ak (X:=Int) (Y:=Unit) (fun t11a k1 x2 =>
 bif decide (t11a<(r9.length:Int))then(chk (decide (0≤t11a)) <|
 chk (decide (t11a<(r9.length:Int))) <|
 Ad (TB N (r9.getD t11a.toNat ([]:Bs))) fun r16 =>
 bif !r16 then(some false)
 else(k1 (i64.wrap (t11a+1))))
 else(x2 ()))
 N 0 (fun _ =>
 some true))
abbrev Afd:Type:=Bool
def OZ (N:Nat) (p0:Bs):Option Afd :=
 Af (decide ((p0.length:Int)<1)) fun b1 =>
 chk (!b1|| !!b1) <|
 chk (!b1|| !!b1) <|
 chk (bif b1 then true else !b1) <|
 chk (bif b1 then true else true) <|
 Af (bif b1 then true else decide ((p0.length:Int)>64)) fun b2 =>
 Af (b2) fun b3 =>
 chk (!b3|| !!b3) <|
 chk ((decide (0<(p0.length:Int)))||(!!b3)) <|
 chk (!b3|| !!b3) <|
 chk (bif b3 then true else !b3) <|
 chk (bif b3 then true else true) <|
 Af (bif b3 then true else(((p0.getD 0 0).toNat:Int)==46)) fun b4 =>
 Af (b4) fun b5 =>
 chk (!b5|| !!b5) <|
 chk (!b5|| !!b5) <|
 chk (!b5|| !!b5) <|
 chk (!b5|| !!b5) <|
 chk ((decide (0≤i64.wrap ((p0.length:Int) - 1)))||(!!b5)) <|
 chk ((decide (i64.wrap ((p0.length:Int) - 1)<(p0.length:Int)))||(!!b5)) <|
 let x24:Int:=((p0.getD ((i64.wrap ((p0.length:Int) - 1)).toNat) 0).toNat:Int)
 chk (!b5|| !!b5) <|
 chk (bif b5 then true else !b5) <|
 chk (bif b5 then true else true) <|
 Af (bif b5 then true else(x24==46)) fun b6 =>
 Af (b6) fun b7 =>
 chk (!b7|| !!b7) <|
 chk (((strings_Contains N p0 ([46,46]:Bs)).isSome)||(!!b7)) <|
 let r29:=(strings_Contains N p0 ([46,46]:Bs)).getD default
 chk (bif b7 then true else !b7) <|
 chk (bif b7 then true else true) <|
 Af (bif b7 then true else r29) fun b8 =>
 bif b8 then(some false)
 else(chk (decide (p0.length≤140737488355328)) <|
 Ak (X:=Int×List Int) (Y:=Unit) (U2 fun t34a l40960a k9 x10 =>
 let x35:Bool:=decide (t34a<((List.map (fun(b:UInt8)=>(b.toNat:Int)) p0).length:Int))
 bif x35 then(chk (decide (0≤t34a)) <|
 chk (decide (t34a<(l40960a.length:Int))) <|
 chk (decide (t34a.toNat<l40960a.length)) <|
 Ad (I5 N (l40960a.getD t34a.toNat 0)) fun r40 =>
 bif r40 then(k9 (i64.wrap (t34a+1),l40960a))
 else(Ad (Ie N (l40960a.getD t34a.toNat 0)) fun r43 =>
 bif r43 then(k9 (i64.wrap (t34a+1),l40960a))
 else(Ad (strings_IndexByte N ([33,35,36,37,38,39,42,43,45,47,61,63,94,95,96,123,124,125,126,46]:Bs) (l40960a.getD t34a.toNat 0)) fun r45 =>
 bif !(decide (r45≥0))then(some false)
 else(k9 (i64.wrap (t34a+1),l40960a)))))
 else(x10 ()))
 N (0,List.map (fun(b:UInt8)=>(b.toNat:Int)) p0) (fun _ =>
 some true))
abbrev Ag6:Type:=Bool
def KT (N:Nat) (p0:Bs):Option Ag6 :=
 Ad (strings_Cut N p0 ([64]:Bs)) fun r8 =>
 Af (r8.2.2) fun b1 =>
 chk (b1||(!b1)) <|
 chk (b1||(!b1)) <|
 chk (bif b1 then b1 else true) <|
 chk (bif b1 then true else true) <|
 Af (bif b1 then decide ((p0.length:Int)≤128)else false) fun b2 =>
 Af (b2) fun b3 =>
 chk (b3||(!b3)) <|
 chk (((OZ N r8.1).isSome)||(!b3)) <|
 let r20:=(OZ N r8.1).getD default
 chk (bif b3 then b3 else true) <|
 chk (bif b3 then true else true) <|
 Af (bif b3 then r20 else false) fun b4 =>
 Af (b4) fun b5 =>
 chk (b5||(!b5)) <|
 chk (((Gg N r8.2.1).isSome)||(!b5)) <|
 let r24:=(Gg N r8.2.1).getD default
 chk (bif b5 then b5 else true) <|
 chk (bif b5 then true else true) <|
 Af (bif b5 then r24 else false) fun b6 =>
 some b6
abbrev yK:Type:=Bool
def JJ (N:Nat) (p0:Bs):Option yK :=
 chk ((decide ((p0.length:Int)≤128))||(!(decide ((p0.length:Int)≤128)))) <|
 chk (((KT N p0).isSome)||(!(decide ((p0.length:Int)≤128)))) <|
 let r8:=(KT N p0).getD default
 chk ((decide ((p0.length:Int)≤128))||(!(decide ((p0.length:Int)≤128)))) <|
 chk (((decide ((p0.length:Int)≤128))&&(!r8))||(!((decide ((p0.length:Int)≤128))&&(!r8)))) <|
 chk (((strings_TrimPrefix N p0 ([46]:Bs)).isSome)||(!((decide ((p0.length:Int)≤128))&&(!r8)))) <|
 let r11:=(strings_TrimPrefix N p0 ([46]:Bs)).getD default
 chk (((decide ((p0.length:Int)≤128))&&(!r8))||(!((decide ((p0.length:Int)≤128))&&(!r8)))) <|
 chk (((Gg N r11).isSome)||(!((decide ((p0.length:Int)≤128))&&(!r8)))) <|
 let r12:=(Gg N r11).getD default
 chk ((decide ((p0.length:Int)≤128))||(!(decide ((p0.length:Int)≤128)))) <|
 chk ((bif r8 then true else((decide ((p0.length:Int)≤128))&&(!r8)))||(!(decide ((p0.length:Int)≤128)))) <|
 chk ((bif r8 then true else true)||(!(decide ((p0.length:Int)≤128)))) <|
 chk (bif decide ((p0.length:Int)≤128)then decide ((p0.length:Int)≤128)else true) <|
 chk (bif decide ((p0.length:Int)≤128)then true else true) <|
 let x14:Bool:=bif decide ((p0.length:Int)≤128)then bif r8 then true else r12 else false
 some x14
abbrev Ag4:Type:=Bool
def Rl (N:Nat) (p0:Bs):Option Ag4 :=
 chk ((!(p0==([]:Bs)))||(!(!(p0==([]:Bs))))) <|
 chk (((Gg N p0).isSome)||(!(!(p0==([]:Bs))))) <|
 let r7:=(Gg N p0).getD default
 chk (bif (p0==([]:Bs))then true else !(p0==([]:Bs))) <|
 chk (bif (p0==([]:Bs))then true else true) <|
 some (bif (p0==([]:Bs))then true else r7)
abbrev Abb:Type:=Bool
def KU (N:Nat) (p0:Bs):Option Abb :=
 Ad (strings_CutPrefix N p0 ([42,46]:Bs)) fun r7 =>
 bif r7.2 then(chk ((decide ((p0.length:Int)≤128))||(!(decide ((p0.length:Int)≤128)))) <|
 chk (((Gg N r7.1).isSome)||(!(decide ((p0.length:Int)≤128)))) <|
 let r16:=(Gg N r7.1).getD default
 chk (bif decide ((p0.length:Int)≤128)then decide ((p0.length:Int)≤128)else true) <|
 chk (bif decide ((p0.length:Int)≤128)then true else true) <|
 chk ((bif decide ((p0.length:Int)≤128)then r16 else false)||(!(bif decide ((p0.length:Int)≤128)then r16 else false))) <|
 chk (((strings_Contains N r7.1 ([46]:Bs)).isSome)||(!(bif decide ((p0.length:Int)≤128)then r16 else false))) <|
 let r20:=(strings_Contains N r7.1 ([46]:Bs)).getD default
 chk (bif bif decide ((p0.length:Int)≤128)then r16 else false then bif decide ((p0.length:Int)≤128)then r16 else false else true) <|
 chk (bif bif decide ((p0.length:Int)≤128)then r16 else false then true else true) <|
 let x21:Bool:=bif bif decide ((p0.length:Int)≤128)then r16 else false then r20 else false
 some x21)
 else(Ad (Gg N p0) fun r23 =>
 some r23)
abbrev AcR:Type:=Bs×Bs
def QG (N:Nat) (p0:Bs):Option AcR :=
 chk (decide (0≤i64.wrap ((p0.length:Int).tdiv 2))) <|
 chk (decide (i64.wrap ((p0.length:Int).tdiv 2)≤(p0.length:Int))) <|
 chk (decide (0≤i64.wrap ((p0.length:Int).tdiv 2))) <|
 chk (decide (i64.wrap ((p0.length:Int).tdiv 2)≤(p0.length:Int))) <|
 let x13:Bs:=AO p0 ((i64.wrap ((p0.length:Int).tdiv 2)).toNat) p0.length
 some (AO p0 0 ((i64.wrap ((p0.length:Int).tdiv 2)).toNat),x13)
abbrev Ai4:Type:=Bool
def Q5 (N:Nat) (p0:Bs) (p1:Int):Option Ai4 :=
 chk (decide (0≤i64.wrap (p1.tdiv 8))) <|
 chk (decide (i64.wrap (p1.tdiv 8)<(p0.length:Int))) <|
 chk (decide (0≤IntKind.u64.wrap ((7:Int) - (IntKind.u64.wrap (p1.tmod 8))))) <|
 let x13:Int:=((p0.getD ((i64.wrap (p1.tdiv 8)).toNat) 0).toNat:Int).fdiv (2 ^ (min (IntKind.u64.wrap ((7:Int) - (IntKind.u64.wrap (p1.tmod 8)))).toNat 8))
 some ((BP .and .u8 x13 1)==1)
abbrev AeY:Type:=Bool
def OY (N:Nat) (p0:Bs):Option AeY :=
 chk (((p0.length:Int) != 8)||(!((p0.length:Int) != 8))) <|
 chk (((p0.length:Int) != 8)||(!((p0.length:Int) != 8))) <|
 chk (bif ((p0.length:Int) != 8)then((p0.length:Int) != 8)else true) <|
 chk (bif ((p0.length:Int) != 8)then true else true) <|
 let x15:Bool:=bif ((p0.length:Int) != 8)then((p0.length:Int) != 32)else false
 bif x15 then(some false)
 else(Ad (QG N p0) fun r18 =>
 Ak (X:=Bool×Int) (Y:=Unit) (U2 fun t5a t6a k1 x2 =>
 bif decide (t6a<(i64.wrap ((8:Int)*(r18.2.length:Int))))then(Ad (Q5 N r18.2 t6a) fun r30 =>
 Af (r30) fun b3 =>
 chk (bif b3 then b3 else true) <|
 chk (bif b3 then true else true) <|
 Af (bif b3 then t5a else false) fun b4 =>
 Af (b4) fun b5 =>
 chk (!b5|| !!b5) <|
 chk (!b5|| !!b5) <|
 Af (!r30) fun b6 =>
 chk (((!b5)&&b6)||(!((!b5)&&b6))) <|
 chk (((!b5)&&b6)||(!((!b5)&&b6))) <|
 chk (((Q5 N r18.1 t6a).isSome)||(!((!b5)&&b6))) <|
 let r41:=(Q5 N r18.1 t6a).getD default
 chk (!b5|| !!b5) <|
 chk ((bif b6 then((!b5)&&b6)else true)||(!!b5)) <|
 chk ((bif b6 then true else true)||(!!b5)) <|
 Af (bif b6 then r41 else false) fun b7 =>
 chk (bif b5 then true else !b5) <|
 chk (bif b5 then true else true) <|
 Af (bif b5 then true else b7) fun b8 =>
 bif b8 then(some false)
 else(chk (!t5a|| !!t5a) <|
 chk (bif t5a then true else !t5a) <|
 chk (bif t5a then true else true) <|
 k1 (bif t5a then true else !r30,i64.wrap (t6a+1))))
 else(x2 ()))
 N (false,0) (fun _ =>
 some true))
abbrev AaZ:Type:=Bool
def KR (N:Nat) (p0:Bs):Option AaZ :=
 chk ((!((p0.length:Int)==4))||(!(!((p0.length:Int)==4)))) <|
 chk ((!((p0.length:Int)==4))||(!(!((p0.length:Int)==4)))) <|
 chk (bif ((p0.length:Int)==4)then true else !((p0.length:Int)==4)) <|
 chk (bif ((p0.length:Int)==4)then true else true) <|
 let x10:Bool:=bif ((p0.length:Int)==4)then true else((p0.length:Int)==16)
 some x10
abbrev iK:Type:=Bool
def Fb (N:Nat) (p0:Int) (p1:Bs) (p2:Bool):Option iK :=
 bif (p0==0)then(Af (p2) fun b1 =>
 chk (b1||(!b1)) <|
 chk (((JJ N p1).isSome)||(!b1)) <|
 let r13:=(JJ N p1).getD default
 chk (bif b1 then b1 else true) <|
 chk (bif b1 then true else true) <|
 Af (bif b1 then r13 else false) fun b2 =>
 Af (b2) fun b3 =>
 chk (!b3|| !!b3) <|
 chk (!b3|| !!b3) <|
 Af (!p2) fun b4 =>
 chk (((!b3)&&b4)||(!((!b3)&&b4))) <|
 chk (((KT N p1).isSome)||(!((!b3)&&b4))) <|
 let r20:=(KT N p1).getD default
 chk (!b3|| !!b3) <|
 chk ((bif b4 then((!b3)&&b4)else true)||(!!b3)) <|
 chk ((bif b4 then true else true)||(!!b3)) <|
 Af (bif b4 then r20 else false) fun b5 =>
 chk (bif b3 then true else !b3) <|
 chk (bif b3 then true else true) <|
 Af (bif b3 then true else b5) fun b6 =>
 some b6)
 else(bif (p0==1)then(Af (p2) fun b7 =>
 chk (b7||(!b7)) <|
 chk (((Rl N p1).isSome)||(!b7)) <|
 let r28:=(Rl N p1).getD default
 chk (bif b7 then b7 else true) <|
 chk (bif b7 then true else true) <|
 Af (bif b7 then r28 else false) fun b8 =>
 Af (b8) fun b9 =>
 chk (!b9|| !!b9) <|
 chk (!b9|| !!b9) <|
 Af (!p2) fun b10 =>
 chk (((!b9)&&b10)||(!((!b9)&&b10))) <|
 chk (((KU N p1).isSome)||(!((!b9)&&b10))) <|
 let r35:=(KU N p1).getD default
 chk (!b9|| !!b9) <|
 chk ((bif b10 then((!b9)&&b10)else true)||(!!b9)) <|
 chk ((bif b10 then true else true)||(!!b9)) <|
 Af (bif b10 then r35 else false) fun b11 =>
 chk (bif b9 then true else !b9) <|
 chk (bif b9 then true else true) <|
 Af (bif b9 then true else b11) fun b12 =>
 some b12)
 else(bif (p0==3)then(Af (p2) fun b13 =>
 chk (b13||(!b13)) <|
 chk (((OY N p1).isSome)||(!b13)) <|
 let r43:=(OY N p1).getD default
 chk (bif b13 then b13 else true) <|
 chk (bif b13 then true else true) <|
 Af (bif b13 then r43 else false) fun b14 =>
 Af (b14) fun b15 =>
 chk (!b15|| !!b15) <|
 chk (!b15|| !!b15) <|
 Af (!p2) fun b16 =>
 chk (((!b15)&&b16)||(!((!b15)&&b16))) <|
 chk (((KR N p1).isSome)||(!((!b15)&&b16))) <|
 let r50:=(KR N p1).getD default
 chk (!b15|| !!b15) <|
 chk ((bif b16 then((!b15)&&b16)else true)||(!!b15)) <|
 chk ((bif b16 then true else true)||(!!b15)) <|
 Af (bif b16 then r50 else false) fun b17 =>
 chk (bif b15 then true else !b15) <|
 chk (bif b15 then true else true) <|
 Af (bif b15 then true else b17) fun b18 =>
 some b18)
 else(some false)))
abbrev AcL:Type:=Int
def JX (N:Nat) (p0:Yq1) (p1:Bool):Option AcL :=
 Ad (uD N p0.1) fun r8 =>
 bif (r8==4)then(some 14)
 else(bif (r8==2)then(bif !(p0.2.1==([]:Bs))then(some 14)
 else(Ad (Iz N p0.2.2) fun r32 =>
 some r32))
 else(chk ((!(decide ((p0.2.2.length:Int)>0)))||(!(!(decide ((p0.2.2.length:Int)>0))))) <|
 chk ((!(decide ((p0.2.2.length:Int)>0)))||(!(!(decide ((p0.2.2.length:Int)>0))))) <|
 chk ((!(decide ((p0.2.2.length:Int)>0)))||(!(!(decide ((p0.2.2.length:Int)>0))))) <|
 chk ((!(decide ((p0.2.2.length:Int)>0)))||(!(!(decide ((p0.2.2.length:Int)>0))))) <|
 chk (((Fb N r8 p0.2.1 p1).isSome)||(!(!(decide ((p0.2.2.length:Int)>0))))) <|
 let r20:=(Fb N r8 p0.2.1 p1).getD default
 chk ((!(decide ((p0.2.2.length:Int)>0)))||(!(!(decide ((p0.2.2.length:Int)>0))))) <|
 chk (bif decide ((p0.2.2.length:Int)>0)then true else !(decide ((p0.2.2.length:Int)>0))) <|
 chk (bif decide ((p0.2.2.length:Int)>0)then true else true) <|
 bif bif decide ((p0.2.2.length:Int)>0)then true else !r20 then(some 14)
 else(some 0)))
abbrev YD:Type:=Int
def FC (N:Nat) (p0:List Yq1):Option YD :=
 Ak (X:=Int) (Y:=Unit) (fun t8a k1 x2 =>
 bif decide (t8a<(p0.length:Int))then(chk (decide (0≤t8a)) <|
 chk (decide (t8a<(p0.length:Int))) <|
 Ad (JX N (p0.getD t8a.toNat (0,([]:Bs),([]:List Yq0))) false) fun r13 =>
 bif (r13 != 0)then(some r13)
 else(k1 (i64.wrap (t8a+1))))
 else(x2 ()))
 N 0 (fun _ =>
 some 0)
abbrev YF:Type:=Int
def Ia (N:Nat) (p0:Yq2):Option YF :=
 CS (α :=Bool×List Yq1×Int×Bool×List Yq0) (fun j1 =>
 chk (((p0.1.length:Int)==0)||(!((p0.1.length:Int)==0))) <|
 chk (((p0.1.length:Int)==0)||(!((p0.1.length:Int)==0))) <|
 chk (bif ((p0.1.length:Int)==0)then((p0.1.length:Int)==0)else true) <|
 chk (bif ((p0.1.length:Int)==0)then true else true) <|
 bif bif ((p0.1.length:Int)==0)then !p0.2.2.1 else false then(j1 (bif ((p0.1.length:Int)==0)then !p0.2.2.1 else false,p0.1,p0.2.1,p0.2.2.1,p0.2.2.2))
 else(chk ((decide ((p0.2.2.2.length:Int)>0))||(!(decide ((p0.2.2.2.length:Int)>0)))) <|
 chk ((decide ((p0.2.2.2.length:Int)>0))||(!(decide ((p0.2.2.2.length:Int)>0)))) <|
 chk (bif decide ((p0.2.2.2.length:Int)>0)then decide ((p0.2.2.2.length:Int)>0)else true) <|
 chk (bif decide ((p0.2.2.2.length:Int)>0)then true else true) <|
 let x23:Bool:=bif decide ((p0.2.2.2.length:Int)>0)then !p0.2.2.1 else false
 j1 (x23,p0.1,p0.2.1,p0.2.2.1,p0.2.2.2)))
 (U5 fun t4a b33024_0a b33024_1a b33024_2a b33024_3a =>
 bif t4a then(some 7)
 else(bif ((BP .andNot .i64 b33024_1a 510) != 0)then(some 1)
 else(bif decide ((b33024_0a.length:Int)>16)then(some 2)
 else(Ad (FC N b33024_0a) fun r36 =>
 bif (r36 != 0)then(some r36)
 else(bif !b33024_2a then(some 0)
 else(bif ((b33024_3a.length:Int)==0)then(some 14)
 else(Ad (Iz N b33024_3a) fun r50 =>
 some r50)))))))
abbrev Xn:Type:=Int
def CW (N:Nat) (p0:List Yq2):Option Xn :=
 bif decide ((p0.length:Int)>4)then(some 2)
 else(Ak (X:=Int) (Y:=Unit) (fun t11a k1 x2 =>
 bif decide (t11a<(p0.length:Int))then(chk (decide (0≤t11a)) <|
 chk (decide (t11a<(p0.length:Int))) <|
 Ad (Ia N (p0.getD t11a.toNat (([]:List Yq1),0,false,([]:List Yq0)))) fun r16 =>
 bif (r16 != 0)then(some r16)
 else(k1 (i64.wrap (t11a+1))))
 else(x2 ()))
 N 0 (fun _ =>
 some 0))
abbrev AaB:Type:=List Yq5
def FD (N:Nat):Option AaB :=
 some ([(([50,46,53,46,50,57,46,49,57]:Bs),1,111,112,113),(([50,46,53,46,50,57,46,49,53]:Bs),1,114,115,116),(([50,46,53,46,50,57,46,51,55]:Bs),2,117,118,119),(([50,46,53,46,50,57,46,51,50]:Bs),2,120,121,122),(([50,46,53,46,50,57,46,51,51]:Bs),2,123,124,125),(([50,46,53,46,50,57,46,51,54]:Bs),1,126,127,128),(([50,46,53,46,50,57,46,53,52]:Bs),1,129,130,131),(([50,46,53,46,50,57,46,49,55]:Bs),2,132,133,134),(([50,46,53,46,50,57,46,51,48]:Bs),1,135,136,137),(([50,46,53,46,50,57,46,49,52]:Bs),0,138,139,140),(([50,46,53,46,50,57,46,51,53]:Bs),0,141,142,143),(([50,46,53,46,50,57,46,51,49]:Bs),0,144,145,146),(([50,46,53,46,50,57,46,52,54]:Bs),0,147,148,149)]:List Yq5)
abbrev AaC:Type:=Bool
def Ec (N:Nat) (p0:Int):Option AaC :=
 chk ((decide (p0≥((-1):Int)))||(!(decide (p0≥((-1):Int))))) <|
 chk (bif decide (p0≥((-1):Int))then decide (p0≥((-1):Int))else true) <|
 chk (bif decide (p0≥((-1):Int))then true else true) <|
 let x8:Bool:=bif decide (p0≥((-1):Int))then decide (p0≤64)else false
 some x8
abbrev fP:Type:=Int
def GH (N:Nat) (p0:List Bs) (p1:Int):Option fP :=
 bif decide ((p0.length:Int)>p1)then(some 2)
 else(Ak (X:=Int) (Y:=Unit) (fun t15a k1 x2 =>
 bif decide (t15a<(p0.length:Int))then(chk (decide (0≤t15a)) <|
 chk (decide (t15a<(p0.length:Int))) <|
 Ad (Gw N (p0.getD t15a.toNat ([]:Bs))) fun r21 =>
 bif !r21 then(some 11)
 else(chk (decide (0≤t15a)) <|
 chk (decide (t15a≤(p0.length:Int))) <|
 Ak (X:=Int) (Y:=Unit) (fun t27b k3 x4 =>
 bif decide (t27b<((AO p0 0 t15a.toNat).length:Int))then(chk (decide (0≤t27b)) <|
 chk (decide (t27b<((AO p0 0 t15a.toNat).length:Int))) <|
 let x33:Bool:=((p0.getD t15a.toNat ([]:Bs))==((AO p0 0 t15a.toNat).getD t27b.toNat ([]:Bs)))
 bif x33 then(some 10)
 else(k3 (i64.wrap (t27b+1))))
 else(x4 ()))
 N 0 (fun _ =>
 k1 (i64.wrap (t15a+1)))))
 else(x2 ()))
 N 0 (fun _ =>
 some 0))
abbrev Vp:Type:=Int
def FU (N:Nat) (p0:List (Bs×Bs)):Option Vp :=
 bif decide ((p0.length:Int)>8)then(some 2)
 else(Ak (X:=Int) (Y:=Unit) (fun t12a k1 x2 =>
 bif decide (t12a<(p0.length:Int))then(chk (decide (0≤t12a)) <|
 chk (decide (t12a<(p0.length:Int))) <|
 Ad (Gw N ((p0.getD t12a.toNat (([]:Bs),([]:Bs))).1)) fun r19 =>
 chk ((!!r19)||(!(!!r19))) <|
 chk ((!!r19)||(!(!!r19))) <|
 chk (((Gw N ((p0.getD t12a.toNat (([]:Bs),([]:Bs))).2)).isSome)||(!(!!r19))) <|
 let r24:=(Gw N ((p0.getD t12a.toNat (([]:Bs),([]:Bs))).2)).getD default
 chk ((!!r19)||(!(!!r19))) <|
 chk (bif !r19 then true else !(!r19)) <|
 chk (bif !r19 then true else true) <|
 bif bif !r19 then true else !r24 then(some 11)
 else(chk (decide (0≤t12a)) <|
 chk (decide (t12a≤(p0.length:Int))) <|
 Ak (X:=Int×Bs×Bs) (Y:=Unit) (U3 fun t31b b33792_0b b33792_1b k3 x4 =>
 bif decide (t31b<((AO p0 0 t12a.toNat).length:Int))then(chk (decide (0≤t31b)) <|
 chk (decide (t31b<((AO p0 0 t12a.toNat).length:Int))) <|
 let x37:Bool:=((b33792_0b==(((AO p0 0 t12a.toNat).getD t31b.toNat (([]:Bs),([]:Bs))).1))&&((b33792_1b==(((AO p0 0 t12a.toNat).getD t31b.toNat (([]:Bs),([]:Bs))).2))&&true))
 bif x37 then(some 10)
 else(k3 (i64.wrap (t31b+1),b33792_0b,b33792_1b)))
 else(x4 ()))
 N (0,(p0.getD t12a.toNat (([]:Bs),([]:Bs))).1,(p0.getD t12a.toNat (([]:Bs),([]:Bs))).2) (fun _ =>
 k1 (i64.wrap (t12a+1)))))
 else(x2 ()))
 N 0 (fun _ =>
 some 0))
abbrev Aas:Type:=Int
def JU (N:Nat) (p0:Yq6):Option Aas :=
 chk (((p0.1.length:Int)==0)||(!((p0.1.length:Int)==0))) <|
 chk (((p0.1.length:Int)==0)||(!((p0.1.length:Int)==0))) <|
 chk (((p0.1.length:Int)==0)||(!((p0.1.length:Int)==0))) <|
 chk (bif ((p0.1.length:Int)==0)then((p0.1.length:Int)==0)else true) <|
 chk (bif ((p0.1.length:Int)==0)then true else true) <|
 let x17:Bool:=bif ((p0.1.length:Int)==0)then((p0.2.length:Int)==0)else false
 bif x17 then(some 7)
 else(chk ((!(decide ((p0.1.length:Int)>16)))||(!(!(decide ((p0.1.length:Int)>16))))) <|
 chk ((!(decide ((p0.1.length:Int)>16)))||(!(!(decide ((p0.1.length:Int)>16))))) <|
 chk ((!(decide ((p0.1.length:Int)>16)))||(!(!(decide ((p0.1.length:Int)>16))))) <|
 chk (bif decide ((p0.1.length:Int)>16)then true else !(decide ((p0.1.length:Int)>16))) <|
 chk (bif decide ((p0.1.length:Int)>16)then true else true) <|
 let x27:Bool:=bif decide ((p0.1.length:Int)>16)then true else decide ((p0.2.length:Int)>16)
 bif x27 then(some 2)
 else(Ak (X:=Int×List (List Yq1)) (Y:=Unit) (U2 fun t34a l40960a k1 x2 =>
 bif decide (t34a<2)then(chk (decide (0≤t34a)) <|
 chk (decide (t34a<(l40960a.length:Int))) <|
 chk (decide (t34a.toNat<l40960a.length)) <|
 Ak (X:=Int×List (List Yq1)) (Y:=(List (List Yq1))) (U2 fun t40b l40960b k3 x4 =>
 let x41:Bool:=decide (t40b<((l40960a.getD t34a.toNat ([]:List Yq1)).length:Int))
 bif x41 then(chk (decide (0≤t40b)) <|
 chk (decide (t40b<((l40960a.getD t34a.toNat ([]:List Yq1)).length:Int))) <|
 Ad (JX N ((l40960a.getD t34a.toNat ([]:List Yq1)).getD t40b.toNat (0,([]:Bs),([]:List Yq0))) true) fun r45 =>
 bif (r45 != 0)then(some r45)
 else(k3 (i64.wrap (t40b+1),l40960b)))
 else(x4 l40960b))
 N (0,l40960a) (fun l40960c =>
 k1 (i64.wrap (t34a+1),l40960c)))
 else(x2 ()))
 N (0,([p0.1,p0.2]:List (List Yq1))) (fun _ =>
 some 0)))
abbrev RZ:Type:=Int
def Ew (N:Nat) (p0:Yq4):Option RZ :=
 bif p0.2.2.2.2.2.2.2.2.2.2.2.1 then(Ad (JU N (p0.2.2.2.2.2.2.2.2.2.2.2.2.1,p0.2.2.2.2.2.2.2.2.2.2.2.2.2.1)) fun r7 =>
 some r7)
 else(chk ((!(decide ((p0.2.2.2.2.2.2.2.2.2.2.2.2.1.length:Int)>0)))||(!(!(decide ((p0.2.2.2.2.2.2.2.2.2.2.2.2.1.length:Int)>0))))) <|
 chk ((!(decide ((p0.2.2.2.2.2.2.2.2.2.2.2.2.1.length:Int)>0)))||(!(!(decide ((p0.2.2.2.2.2.2.2.2.2.2.2.2.1.length:Int)>0))))) <|
 chk ((!(decide ((p0.2.2.2.2.2.2.2.2.2.2.2.2.1.length:Int)>0)))||(!(!(decide ((p0.2.2.2.2.2.2.2.2.2.2.2.2.1.length:Int)>0))))) <|
 chk ((!(decide ((p0.2.2.2.2.2.2.2.2.2.2.2.2.1.length:Int)>0)))||(!(!(decide ((p0.2.2.2.2.2.2.2.2.2.2.2.2.1.length:Int)>0))))) <|
 chk (bif decide ((p0.2.2.2.2.2.2.2.2.2.2.2.2.1.length:Int)>0)then true else !(decide ((p0.2.2.2.2.2.2.2.2.2.2.2.2.1.length:Int)>0))) <|
 chk (bif decide ((p0.2.2.2.2.2.2.2.2.2.2.2.2.1.length:Int)>0)then true else true) <|
 let x19:Bool:=bif decide ((p0.2.2.2.2.2.2.2.2.2.2.2.2.1.length:Int)>0)then true else decide ((p0.2.2.2.2.2.2.2.2.2.2.2.2.2.1.length:Int)>0)
 bif x19 then(some 7)
 else(some 0))
abbrev AaA:Type:=Yq5×Bool
def OI (N:Nat) (p0:Bs):Option AaA :=
 Ad (FD N) fun r6 =>
 Ak (X:=Int) (Y:=Unit) (fun t8a k1 x2 =>
 bif decide (t8a<(r6.length:Int))then(chk (decide (0≤t8a)) <|
 chk (decide (t8a<(r6.length:Int))) <|
 bif (((r6.getD t8a.toNat (([]:Bs),0,0,0,0)).1)==p0)then(some ((r6.getD t8a.toNat (([]:Bs),0,0,0,0)),true))
 else(k1 (i64.wrap (t8a+1))))
 else(x2 ()))
 N 0 (fun _ =>
 some ((([]:Bs),0,0,0,0),false))
abbrev Ahf:Type:=Int
def lV (N:Nat) (p0:Int):Option Ahf :=
 bif (p0==1)then(some 128)
 else(let x8:Int:=IntKind.u64.wrap ((8:Int)*(IntKind.u64.wrap (i64.wrap (p0 - 1))))
 chk (decide (0≤x8)) <|
 some (i64.wrap ((1:Int)*(2 ^ (min x8.toNat 64)))))
abbrev Ajx:Type:=(Int×Bs×Bs)×Bs×Int
def Vh (N:Nat) (p0:Bs):Option Ajx :=
 bif (p0==([]:Bs))then(some ((0,([]:Bs),([]:Bs)),([]:Bs),3))
 else(chk (decide (0<(p0.length:Int))) <|
 let x20:Bool:=((BP .and .i64 (i64.wrap ((p0.getD 0 0).toNat:Int)) 31)==31)
 bif x20 then(some ((0,([]:Bs),([]:Bs)),([]:Bs),5))
 else(bif decide ((p0.length:Int)<2)then(some ((0,([]:Bs),([]:Bs)),([]:Bs),3))
 else(chk (decide (1<(p0.length:Int))) <|
 chk ((!((i64.wrap ((p0.getD 1 0).toNat:Int))==128))||(!(!((i64.wrap ((p0.getD 1 0).toNat:Int))==128)))) <|
 chk (bif ((i64.wrap ((p0.getD 1 0).toNat:Int))==128)then true else !((i64.wrap ((p0.getD 1 0).toNat:Int))==128)) <|
 chk (bif ((i64.wrap ((p0.getD 1 0).toNat:Int))==128)then true else true) <|
 let x34:Bool:=bif ((i64.wrap ((p0.getD 1 0).toNat:Int))==128)then true else decide ((i64.wrap ((p0.getD 1 0).toNat:Int))>131)
 bif x34 then(some ((0,([]:Bs),([]:Bs)),([]:Bs),6))
 else(CS (α :=Int×Int) (fun j1 =>
 bif decide ((i64.wrap ((p0.getD 1 0).toNat:Int))>128)then(let x39:Int:=i64.wrap ((i64.wrap ((p0.getD 1 0).toNat:Int)) - 128)
 bif decide ((p0.length:Int)<(i64.wrap ((2:Int)+x39)))then(some ((0,([]:Bs),([]:Bs)),([]:Bs),3))
 else(chk (decide (2≤i64.wrap ((2:Int)+x39))) <|
 chk (decide (i64.wrap ((2:Int)+x39)≤(p0.length:Int))) <|
 chk (decide ((AO p0 2 ((i64.wrap ((2:Int)+x39)).toNat)).length≤140737488355328)) <|
 let y45568:List Int:=List.map (fun(b:UInt8)=>(b.toNat:Int)) (AO p0 2 ((i64.wrap ((2:Int)+x39)).toNat))
 Ak (X:=Int×Int×List Int) (Y:=Int) (U3 fun t7b t52b l45568b k2 x3 =>
 bif decide (t52b<(y45568.length:Int))then(chk (decide (0≤t52b)) <|
 chk (decide (t52b<(l45568b.length:Int))) <|
 chk (decide (t52b.toNat<l45568b.length)) <|
 let x60:Int:=BP .or .i64 (i64.wrap (t7b*(256))) (i64.wrap (l45568b.getD t52b.toNat 0))
 k2 (x60,i64.wrap (t52b+1),l45568b))
 else(x3 t7b))
 N (0,0,y45568) (fun t7c =>
 Ad (lV N x39) fun r67 =>
 chk ((!(decide (t7c<r67)))||(!(!(decide (t7c<r67))))) <|
 chk (bif decide (t7c<r67)then true else !(decide (t7c<r67))) <|
 chk (bif decide (t7c<r67)then true else true) <|
 bif bif decide (t7c<r67)then true else decide (t7c>131072)then(some ((0,([]:Bs),([]:Bs)),([]:Bs),6))
 else(j1 (t7c,i64.wrap ((2:Int)+x39))))))
 else(j1 (i64.wrap ((p0.getD 1 0).toNat:Int),2)))
 (U2 fun t7a t8a =>
 bif decide ((i64.wrap ((p0.length:Int) - t8a))<t7a)then(some ((0,([]:Bs),([]:Bs)),([]:Bs),3))
 else(chk (decide (0≤t8a)) <|
 chk (decide (t8a≤i64.wrap (t8a+t7a))) <|
 chk (decide (i64.wrap (t8a+t7a)≤(p0.length:Int))) <|
 chk (decide (0≤i64.wrap (t8a+t7a))) <|
 chk (decide (i64.wrap (t8a+t7a)≤(p0.length:Int))) <|
 chk (decide (0≤i64.wrap (t8a+t7a))) <|
 chk (decide (i64.wrap (t8a+t7a)≤(p0.length:Int))) <|
 some ((i64.wrap ((p0.getD 0 0).toNat:Int),AO p0 t8a.toNat ((i64.wrap (t8a+t7a)).toNat),AO p0 0 ((i64.wrap (t8a+t7a)).toNat)),AO p0 ((i64.wrap (t8a+t7a)).toNat) p0.length,0)))))))
abbrev AkW:Type:=(Int×Bs×Bs)×Int
def nI (N:Nat) (p0:Bs):Option AkW :=
 Ad (Vh N p0) fun r9 =>
 bif (r9.2.2 != 0)then(some ((0,([]:Bs),([]:Bs)),r9.2.2))
 else(bif !(r9.2.1==([]:Bs))then(some ((0,([]:Bs),([]:Bs)),4))
 else(some (r9.1,0)))
abbrev Vj:Type:=Int
def Iq (N:Nat) (F:(Int×Bs×Bs)→Int→Option Vj) (p0:Int×Bs×Bs) (p1:Int):Option Vj :=
 bif ((BP .and .i64 p0.1 32)==0)then(some 0)
 else(Ak (X:=Bs) (Y:=Unit) (fun t5a k1 x2 =>
 bif !(t5a==([]:Bs))then(Ad (Vh N t5a) fun r20 =>
 bif (r20.2.2 != 0)then(some r20.2.2)
 else(bif decide (p1≥16)then(some 8)
 else(Ad (F r20.1 (i64.wrap (p1+1))) fun r32 =>
 bif (r32 != 0)then(some r32)
 else(k1 r20.2.1))))
 else(x2 ()))
 N p0.2.1 (fun _ =>
 some 0))
def JA (N:Nat):Nat→(Int×Bs×Bs)→Int→Option Vj
  | 0=>fun p0 p1=>none
  | n+1=>fun p0 p1=>Iq N (JA N n) p0 p1
abbrev Ahc:Type:=Int
def Wh (N:Nat) (p0:Bs):Option Ahc :=
 Ad (nI N p0) fun r7 =>
 bif (r7.2 != 0)then(some r7.2)
 else(Ad (JA N N r7.1 1) fun r14 =>
 some r14)
abbrev Wu:Type:=Int
def Ey (N:Nat) (p0:Yq3):Option Wu :=
 Ak (X:=Int) (Y:=Unit) (fun t12a k1 x2 =>
 bif decide (t12a<(p0.length:Int))then(chk (decide (0≤t12a)) <|
 chk (decide (t12a<(p0.length:Int))) <|
 Ad (Gw N ((p0.getD t12a.toNat (([]:Bs),false,([]:Bs))).1)) fun r19 =>
 bif !r19 then(some 11)
 else(Ad (OI N ((p0.getD t12a.toNat (([]:Bs),false,([]:Bs))).1)) fun r24 =>
 bif r24.2 then(some 20)
 else(chk (decide (0≤t12a)) <|
 chk (decide (t12a≤(p0.length:Int))) <|
 Ak (X:=Int×Bs×Bool×Bs) (Y:=(Bs×Bool×Bs)) (U4 fun t32b b33792_0b b33792_1b b33792_2b k3 x4 =>
 bif decide (t32b<((AO p0 0 t12a.toNat).length:Int))then(chk (decide (0≤t32b)) <|
 chk (decide (t32b<((AO p0 0 t12a.toNat).length:Int))) <|
 let x37:Bs:=((AO p0 0 t12a.toNat).getD t32b.toNat (([]:Bs),false,([]:Bs))).1
 bif (x37==b33792_0b)then(some 10)
 else(k3 (i64.wrap (t32b+1),b33792_0b,b33792_1b,b33792_2b)))
 else(x4 (b33792_0b,b33792_1b,b33792_2b)))
 N (0,(p0.getD t12a.toNat (([]:Bs),false,([]:Bs))).1,(p0.getD t12a.toNat (([]:Bs),false,([]:Bs))).2.1,(p0.getD t12a.toNat (([]:Bs),false,([]:Bs))).2.2) (U3 fun b33792_0c b33792_1c b33792_2c =>
 Ad (Wh N b33792_2c) fun r44 =>
 bif (r44 != 0)then(some r44)
 else(k1 (i64.wrap (t12a+1)))))))
 else(x2 ()))
 N 0 (fun _ =>
 some 0)
abbrev rX:Type:=Bool
def Ql (N:Nat) (p0:Yq4):Option rX :=
 some p0.1
abbrev rZ:Type:=Bool
def Qm (N:Nat) (p0:Yq4):Option rZ :=
 some (p0.2.2.2.1 != 0)
abbrev sF:Type:=Bool
def Qn (N:Nat) (p0:Yq4):Option sF :=
 some (decide ((p0.2.2.2.2.1.length:Int)>0))
abbrev sH:Type:=Bool
def Qo (N:Nat) (p0:Yq4):Option sH :=
 some (decide ((p0.2.2.2.2.2.1.length:Int)>0))
abbrev sK:Type:=Bool
def Qp (N:Nat) (p0:Yq4):Option sK :=
 some (decide ((p0.2.2.2.2.2.2.1.length:Int)>0))
abbrev sO:Type:=Bool
def IU (N:Nat) (p0:Yq4):Option sO :=
 chk ((!(p0.2.2.2.2.2.2.2.1 != ((-1):Int)))||(!(!(p0.2.2.2.2.2.2.2.1 != ((-1):Int))))) <|
 chk ((!(p0.2.2.2.2.2.2.2.1 != ((-1):Int)))||(!(!(p0.2.2.2.2.2.2.2.1 != ((-1):Int))))) <|
 chk (bif (p0.2.2.2.2.2.2.2.1 != ((-1):Int))then true else !(p0.2.2.2.2.2.2.2.1 != ((-1):Int))) <|
 chk (bif (p0.2.2.2.2.2.2.2.1 != ((-1):Int))then true else true) <|
 let x10:Bool:=bif (p0.2.2.2.2.2.2.2.1 != ((-1):Int))then true else(p0.2.2.2.2.2.2.2.2.1 != ((-1):Int))
 some x10
abbrev sS:Type:=Bool
def Qq (N:Nat) (p0:Yq4):Option sS :=
 some (p0.2.2.2.2.2.2.2.2.2.1 != ((-1):Int))
abbrev sV:Type:=Bool
def Qr (N:Nat) (p0:Yq4):Option sV :=
 some (decide ((p0.2.2.2.2.2.2.2.2.2.2.1.length:Int)>0))
abbrev sZ:Type:=Bool
def Qs (N:Nat) (p0:Yq4):Option sZ :=
 some p0.2.2.2.2.2.2.2.2.2.2.2.1
abbrev nO:Type:=Bool
def OJ (N:Nat) (p0:Yq4):Option nO :=
 some (!(p0.2.2.2.2.2.2.2.2.2.2.2.2.2.2.1==([]:Bs)))
abbrev nR:Type:=Bool
def OL (N:Nat) (p0:Yq4):Option nR :=
 some (!(p0.2.2.2.2.2.2.2.2.2.2.2.2.2.2.2.1==([]:Bs)))
abbrev nT:Type:=Bool
def OM (N:Nat) (p0:Yq4):Option nT :=
 let x6:Bool:=decide ((p0.2.2.2.2.2.2.2.2.2.2.2.2.2.2.2.2.1.length:Int)>0)
 some x6
abbrev nV:Type:=Bool
def OO (N:Nat) (p0:Yq4):Option nV :=
 let x6:Bool:=decide ((p0.2.2.2.2.2.2.2.2.2.2.2.2.2.2.2.2.2.1.length:Int)>0)
 some x6
def mM (N n:Nat) (a:Yq4):Option (Bool) :=
  bif Nat.beq n 111 then Ql N a else
  bif Nat.beq n 114 then Qm N a else
  bif Nat.beq n 117 then Qn N a else
  bif Nat.beq n 120 then Qo N a else
  bif Nat.beq n 123 then Qp N a else
  bif Nat.beq n 126 then IU N a else
  bif Nat.beq n 129 then Qq N a else
  bif Nat.beq n 132 then Qr N a else
  bif Nat.beq n 135 then Qs N a else
  bif Nat.beq n 138 then OJ N a else
  bif Nat.beq n 141 then OL N a else
  bif Nat.beq n 144 then OM N a else
  bif Nat.beq n 147 then OO N a else
  none
abbrev xI:Type:=Int
def H6 (N:Nat) (p0:Yq4):Option xI :=
 Af (p0.2.1) fun b1 =>
 chk (b1||(!b1)) <|
 chk (b1||(!b1)) <|
 chk (bif b1 then b1 else true) <|
 chk (bif b1 then true else true) <|
 Af (bif b1 then !p0.1 else false) fun b2 =>
 Af (b2) fun b3 =>
 chk (!b3|| !!b3) <|
 chk (!b3|| !!b3) <|
 chk (!b3|| !!b3) <|
 Af (p0.2.2.1 != ((-1):Int)) fun b4 =>
 chk (((!b3)&&b4)||(!((!b3)&&b4))) <|
 chk (((!b3)&&b4)||(!((!b3)&&b4))) <|
 chk (!b3|| !!b3) <|
 chk ((bif b4 then((!b3)&&b4)else true)||(!!b3)) <|
 chk ((bif b4 then true else true)||(!!b3)) <|
 Af (bif b4 then !p0.2.1 else false) fun b5 =>
 chk (bif b3 then true else !b3) <|
 chk (bif b3 then true else true) <|
 Af (bif b3 then true else b5) fun b6 =>
 bif b6 then(some 7)
 else(Ad (Ec N p0.2.2.1) fun r32 =>
 Af (!r32) fun b7 =>
 chk (!b7|| !!b7) <|
 chk (!b7|| !!b7) <|
 chk (((Ec N p0.2.2.2.2.2.2.2.1).isSome)||(!!b7)) <|
 let r37:=(Ec N p0.2.2.2.2.2.2.2.1).getD default
 chk (!b7|| !!b7) <|
 chk (bif b7 then true else !b7) <|
 chk (bif b7 then true else true) <|
 Af (bif b7 then true else !r37) fun b8 =>
 Af (b8) fun b9 =>
 chk (!b9|| !!b9) <|
 chk (!b9|| !!b9) <|
 chk (((Ec N p0.2.2.2.2.2.2.2.2.1).isSome)||(!!b9)) <|
 let r43:=(Ec N p0.2.2.2.2.2.2.2.2.1).getD default
 chk (!b9|| !!b9) <|
 chk (bif b9 then true else !b9) <|
 chk (bif b9 then true else true) <|
 Af (bif b9 then true else !r43) fun b10 =>
 Af (b10) fun b11 =>
 chk (!b11|| !!b11) <|
 chk (!b11|| !!b11) <|
 chk (((Ec N p0.2.2.2.2.2.2.2.2.2.1).isSome)||(!!b11)) <|
 let r49:=(Ec N p0.2.2.2.2.2.2.2.2.2.1).getD default
 chk (!b11|| !!b11) <|
 chk (bif b11 then true else !b11) <|
 chk (bif b11 then true else true) <|
 Af (bif b11 then true else !r49) fun b12 =>
 Af (b12) fun b13 =>
 chk (!b13|| !!b13) <|
 chk (!b13|| !!b13) <|
 chk (bif b13 then true else !b13) <|
 chk (bif b13 then true else true) <|
 Af (bif b13 then true else decide (p0.2.2.2.1<0)) fun b14 =>
 Af (b14) fun b15 =>
 chk (!b15|| !!b15) <|
 chk (!b15|| !!b15) <|
 chk (bif b15 then true else !b15) <|
 chk (bif b15 then true else true) <|
 Af (bif b15 then true else decide (p0.2.2.2.1>511)) fun b16 =>
 bif b16 then(some 1)
 else(Ad (GH N p0.2.2.2.2.1 8) fun r64 =>
 bif (r64 != 0)then(some r64)
 else(Ad (GH N p0.2.2.2.2.2.1 8) fun r70 =>
 bif (r70 != 0)then(some r70)
 else(Ad (FU N p0.2.2.2.2.2.2.1) fun r76 =>
 bif (r76 != 0)then(some r76)
 else(bif decide ((p0.2.2.2.2.2.2.2.2.2.2.1.length:Int)>16)then(some 2)
 else(Ad (FC N p0.2.2.2.2.2.2.2.2.2.2.1) fun r86 =>
 bif (r86 != 0)then(some r86)
 else(Ad (Ew N p0) fun r91 =>
 bif (r91 != 0)then(some r91)
 else(chk ((!(decide ((p0.2.2.2.2.2.2.2.2.2.2.2.2.2.2.1.length:Int)>32)))||(!(!(decide ((p0.2.2.2.2.2.2.2.2.2.2.2.2.2.2.1.length:Int)>32))))) <|
 chk ((!(decide ((p0.2.2.2.2.2.2.2.2.2.2.2.2.2.2.1.length:Int)>32)))||(!(!(decide ((p0.2.2.2.2.2.2.2.2.2.2.2.2.2.2.1.length:Int)>32))))) <|
 chk ((!(decide ((p0.2.2.2.2.2.2.2.2.2.2.2.2.2.2.1.length:Int)>32)))||(!(!(decide ((p0.2.2.2.2.2.2.2.2.2.2.2.2.2.2.1.length:Int)>32))))) <|
 let x103:Bool:=decide ((p0.2.2.2.2.2.2.2.2.2.2.2.2.2.2.2.1.length:Int)>32)
 chk (bif decide ((p0.2.2.2.2.2.2.2.2.2.2.2.2.2.2.1.length:Int)>32)then true else !(decide ((p0.2.2.2.2.2.2.2.2.2.2.2.2.2.2.1.length:Int)>32))) <|
 chk (bif decide ((p0.2.2.2.2.2.2.2.2.2.2.2.2.2.2.1.length:Int)>32)then true else true) <|
 let x104:Bool:=bif decide ((p0.2.2.2.2.2.2.2.2.2.2.2.2.2.2.1.length:Int)>32)then true else x103
 bif x104 then(some 2)
 else(Ad (CW N p0.2.2.2.2.2.2.2.2.2.2.2.2.2.2.2.2.1) fun r107 =>
 bif (r107 != 0)then(some r107)
 else(Ad (CW N p0.2.2.2.2.2.2.2.2.2.2.2.2.2.2.2.2.2.1) fun r113 =>
 bif (r113 != 0)then(some r113)
 else(Ad (FD N) fun r120 =>
 Ak (X:=Int×Int×Bool×Bool×Int×Int×List Bs×List Bs×(List (Bs×Bs))×Int×Int×Int×List Yq1×Bool×List Yq1×List Yq1×Bs×Bs×List Yq2×List Yq2×List (Bs×Bool×Bs)) (Y:=(Int×Bool×Bool×Int×Int×List Bs×List Bs×(List (Bs×Bs))×Int×Int×Int×List Yq1×Bool×List Yq1×List Yq1×Bs×Bs×List Yq2×List Yq2×List (Bs×Bool×Bs))) (U21 fun t10a t122a b33024_0a b33024_1a b33024_2a b33024_3a b33024_4a b33024_5a b33024_6a b33024_7a b33024_8a b33024_9a b33024_10a b33024_11a b33024_12a b33024_13a b33024_14a b33024_15a b33024_16a b33024_17a b33024_18a k17 x18 =>
 bif decide (t122a<(r120.length:Int))then(chk (decide (0≤t122a)) <|
 chk (decide (t122a<(r120.length:Int))) <|
 Ad (mM N ((r120.getD t122a.toNat (([]:Bs),0,0,0,0)).2.2.1) (b33024_0a,b33024_1a,b33024_2a,b33024_3a,b33024_4a,b33024_5a,b33024_6a,b33024_7a,b33024_8a,b33024_9a,b33024_10a,b33024_11a,b33024_12a,b33024_13a,b33024_14a,b33024_15a,b33024_16a,b33024_17a,b33024_18a)) fun r129 =>
 bif r129 then(k17 (i64.wrap (t10a+1),i64.wrap (t122a+1),b33024_0a,b33024_1a,b33024_2a,b33024_3a,b33024_4a,b33024_5a,b33024_6a,b33024_7a,b33024_8a,b33024_9a,b33024_10a,b33024_11a,b33024_12a,b33024_13a,b33024_14a,b33024_15a,b33024_16a,b33024_17a,b33024_18a))
 else(k17 (t10a,i64.wrap (t122a+1),b33024_0a,b33024_1a,b33024_2a,b33024_3a,b33024_4a,b33024_5a,b33024_6a,b33024_7a,b33024_8a,b33024_9a,b33024_10a,b33024_11a,b33024_12a,b33024_13a,b33024_14a,b33024_15a,b33024_16a,b33024_17a,b33024_18a)))
 else(x18 (t10a,b33024_0a,b33024_1a,b33024_2a,b33024_3a,b33024_4a,b33024_5a,b33024_6a,b33024_7a,b33024_8a,b33024_9a,b33024_10a,b33024_11a,b33024_12a,b33024_13a,b33024_14a,b33024_15a,b33024_16a,b33024_17a,b33024_18a)))
 N ((p0.2.2.2.2.2.2.2.2.2.2.2.2.2.2.2.2.2.2.length:Int),0,p0.1,p0.2.1,p0.2.2.1,p0.2.2.2.1,p0.2.2.2.2.1,p0.2.2.2.2.2.1,p0.2.2.2.2.2.2.1,p0.2.2.2.2.2.2.2.1,p0.2.2.2.2.2.2.2.2.1,p0.2.2.2.2.2.2.2.2.2.1,p0.2.2.2.2.2.2.2.2.2.2.1,p0.2.2.2.2.2.2.2.2.2.2.2.1,p0.2.2.2.2.2.2.2.2.2.2.2.2.1,p0.2.2.2.2.2.2.2.2.2.2.2.2.2.1,p0.2.2.2.2.2.2.2.2.2.2.2.2.2.2.1,p0.2.2.2.2.2.2.2.2.2.2.2.2.2.2.2.1,p0.2.2.2.2.2.2.2.2.2.2.2.2.2.2.2.2.1,p0.2.2.2.2.2.2.2.2.2.2.2.2.2.2.2.2.2.1,p0.2.2.2.2.2.2.2.2.2.2.2.2.2.2.2.2.2.2) (U20 fun t10b b33024_0b b33024_1b b33024_2b b33024_3b b33024_4b b33024_5b b33024_6b b33024_7b b33024_8b b33024_9b b33024_10b b33024_11b b33024_12b b33024_13b b33024_14b b33024_15b b33024_16b b33024_17b b33024_18b =>
 bif decide (t10b>24)then(some 2)
 else(Ad (Ey N b33024_18b) fun r137 =>
 some r137)))))))))))))
abbrev tK:Type:=Bool×Bool
def IV (N:Nat) (p0:Bool):Option tK :=
 some (p0,p0)
abbrev o5:Type:=Bs×Bool
def BI (N:Nat) (p0:Bool) (p1:Bs) (p2:Int):Option o5 :=
 chk (!p0|| !!p0) <|
 chk (bif p0 then true else !p0) <|
 chk (bif p0 then true else true) <|
 some (p1,bif p0 then true else(p2 != 0))
abbrev Ajz:Type:=Bs×Int
def BR (N:Nat) (p0:Int) (p1:List Bs):Option Ajz :=
 chk ((!(decide (p0<0)))||(!(!(decide (p0<0))))) <|
 chk (bif decide (p0<0)then true else !(decide (p0<0))) <|
 chk (bif decide (p0<0)then true else true) <|
 chk ((!(bif decide (p0<0)then true else decide (p0>255)))||(!(!(bif decide (p0<0)then true else decide (p0>255))))) <|
 chk ((!(bif decide (p0<0)then true else decide (p0>255)))||(!(!(bif decide (p0<0)then true else decide (p0>255))))) <|
 chk (bif bif decide (p0<0)then true else decide (p0>255)then true else !(bif decide (p0<0)then true else decide (p0>255))) <|
 chk (bif bif decide (p0<0)then true else decide (p0>255)then true else true) <|
 let x20:Bool:=bif bif decide (p0<0)then true else decide (p0>255)then true else((BP .and .i64 p0 31)==31)
 bif x20 then(some (([]:Bs),5))
 else(Ak (X:=Int×Int) (Y:=Int) (U2 fun t6a t23a k1 x2 =>
 bif decide (t23a<(p1.length:Int))then(chk (decide (0≤t23a)) <|
 chk (decide (t23a<(p1.length:Int))) <|
 let x31:Bool:=decide (((p1.getD t23a.toNat ([]:Bs)).length:Int)>(i64.wrap ((131072:Int) - t6a)))
 bif x31 then(some (([]:Bs),6))
 else(k1 (i64.wrap (t6a+((p1.getD t23a.toNat ([]:Bs)).length:Int)),i64.wrap (t23a+1))))
 else(x2 t6a))
 N (0,0) (fun t6b =>
 CS (α :=List Int) (fun j3 =>
 bif decide (t6b<128)then(j3 ([IntKind.u8.wrap p0,IntKind.u8.wrap t6b]:List Int))
 else(bif decide (t6b<256)then(j3 ([IntKind.u8.wrap p0,129,IntKind.u8.wrap t6b]:List Int))
 else(bif decide (t6b<65536)then(j3 ([IntKind.u8.wrap p0,130,IntKind.u8.wrap (t6b.fdiv (256)),IntKind.u8.wrap t6b]:List Int))
 else(j3 ([IntKind.u8.wrap p0,131,IntKind.u8.wrap (t6b.fdiv (65536)),IntKind.u8.wrap (t6b.fdiv (256)),IntKind.u8.wrap t6b]:List Int)))))
 (fun l1008192c =>
 chk (List.all l1008192c isByte) <|
 Ad (strings_Join N p1 ([]:Bs)) fun r81 =>
 chk (decide ((List.map byteOf l1008192c).length+r81.length≤140737488355328)) <|
 some ((List.map byteOf l1008192c)++r81,0))))
abbrev o6:Type:=Bs×Bool
def Aq (N:Nat) (p0:Bool) (p1:Int) (p2:List Bs):Option o6 :=
 Ad (BR N p1 p2) fun r10 =>
 Ad (BI N p0 r10.1 r10.2) fun r13 =>
 some (r13.1,r13.2)
abbrev tV:Type:=Bs×Bool
def AZ (N:Nat) (p0:Bool) (p1:List Bs):Option tV :=
 Ad (Aq N p0 48 p1) fun r7 =>
 some (r7.1,r7.2)
abbrev oL:Type:=Bs
def FX (N:Nat) (p0:Int):Option oL :=
 Ak (X:=Int×Int) (Y:=Int) (U2 fun t3a t4a k1 x2 =>
 chk ((!(decide (t4a<((-128):Int))))||(!(!(decide (t4a<((-128):Int)))))) <|
 chk (bif decide (t4a<((-128):Int))then true else !(decide (t4a<((-128):Int)))) <|
 chk (bif decide (t4a<((-128):Int))then true else true) <|
 let x13:Bool:=bif decide (t4a<((-128):Int))then true else decide (t4a>127)
 bif x13 then(k1 (i64.wrap (t3a+1),t4a.fdiv (256)))
 else(x2 t3a))
 N (1,p0) (fun t3b =>
 Ak (X:=Int×List Int) (Y:=(List Int)) (U2 fun t19c l1008192c k3 x4 =>
 bif decide (t19c<t3b)then(let x28:Int:=IntKind.u64.wrap (i64.wrap ((i64.wrap (t3b - 1)) - t19c))
 chk (decide (0≤IntKind.u64.wrap ((8:Int)*x28))) <|
 let x31:Int:=IntKind.u8.wrap (p0.fdiv (2 ^ (min (IntKind.u64.wrap ((8:Int)*x28)).toNat 64)))
 chk (decide ((l1008192c.length+1)*2≤140737488355328)) <|
 k3 (i64.wrap (t19c+1),l1008192c++([x31]:List Int)))
 else(x4 l1008192c))
 N (0,([]:List Int)) (fun l1012288d =>
 chk (List.all l1012288d isByte) <|
 some (List.map byteOf l1012288d)))
abbrev tN:Type:=Bs×Bool
def IW (N:Nat) (p0:Bool) (p1:Int):Option tN :=
 Ad (FX N p1) fun r7 =>
 Ad (Aq N p0 2 ([r7]:List Bs)) fun r9 =>
 some (r9.1,r9.2)
abbrev oJ:Type:=Bs
def VO (N:Nat) (p0:Bool):Option oJ :=
 bif p0 then(some ([255]:Bs))
 else(some ([0]:Bs))
abbrev nZ:Type:=Bs×Bool
def Ic (N:Nat) (p0:Bool) (p1:Int) (p2:Bool):Option nZ :=
 bif !p2 then(some (([]:Bs),p0))
 else(Ad (VO N true) fun r11 =>
 Ad (Aq N p0 p1 ([r11]:List Bs)) fun r13 =>
 some (r13.1,r13.2))
abbrev fU:Type:=Bs×Bool
def EW (N:Nat) (p0:Bool) (p1:Yq4):Option fU :=
 CS (α :=Bs×Bool×Bool×Bool×Int×Int×List Bs×List Bs×(List (Bs×Bs))×Int×Int×Int×List Yq1×Bool×List Yq1×List Yq1×Bs×Bs×List Yq2×List Yq2×List (Bs×Bool×Bs)) (fun j1 =>
 bif (p1.2.2.1 != ((-1):Int))then(Ad (IW N p0 p1.2.2.1) fun r12 =>
 j1 (r12.1,r12.2,p1.1,p1.2.1,p1.2.2.1,p1.2.2.2.1,p1.2.2.2.2.1,p1.2.2.2.2.2.1,p1.2.2.2.2.2.2.1,p1.2.2.2.2.2.2.2.1,p1.2.2.2.2.2.2.2.2.1,p1.2.2.2.2.2.2.2.2.2.1,p1.2.2.2.2.2.2.2.2.2.2.1,p1.2.2.2.2.2.2.2.2.2.2.2.1,p1.2.2.2.2.2.2.2.2.2.2.2.2.1,p1.2.2.2.2.2.2.2.2.2.2.2.2.2.1,p1.2.2.2.2.2.2.2.2.2.2.2.2.2.2.1,p1.2.2.2.2.2.2.2.2.2.2.2.2.2.2.2.1,p1.2.2.2.2.2.2.2.2.2.2.2.2.2.2.2.2.1,p1.2.2.2.2.2.2.2.2.2.2.2.2.2.2.2.2.2.1,p1.2.2.2.2.2.2.2.2.2.2.2.2.2.2.2.2.2.2))
 else(j1 (([]:Bs),p0,p1.1,p1.2.1,p1.2.2.1,p1.2.2.2.1,p1.2.2.2.2.1,p1.2.2.2.2.2.1,p1.2.2.2.2.2.2.1,p1.2.2.2.2.2.2.2.1,p1.2.2.2.2.2.2.2.2.1,p1.2.2.2.2.2.2.2.2.2.1,p1.2.2.2.2.2.2.2.2.2.2.1,p1.2.2.2.2.2.2.2.2.2.2.2.1,p1.2.2.2.2.2.2.2.2.2.2.2.2.1,p1.2.2.2.2.2.2.2.2.2.2.2.2.2.1,p1.2.2.2.2.2.2.2.2.2.2.2.2.2.2.1,p1.2.2.2.2.2.2.2.2.2.2.2.2.2.2.2.1,p1.2.2.2.2.2.2.2.2.2.2.2.2.2.2.2.2.1,p1.2.2.2.2.2.2.2.2.2.2.2.2.2.2.2.2.2.1,p1.2.2.2.2.2.2.2.2.2.2.2.2.2.2.2.2.2.2)))
 (U21 fun t5a b0_0a b33536_0a b33536_1a b33536_2a b33536_3a b33536_4a b33536_5a b33536_6a b33536_7a b33536_8a b33536_9a b33536_10a b33536_11a b33536_12a b33536_13a b33536_14a b33536_15a b33536_16a b33536_17a b33536_18a =>
 Ad (Ic N b0_0a 1 b33536_1a) fun r17 =>
 Ad (AZ N r17.2 ([r17.1,t5a]:List Bs)) fun r20 =>
 some (r20.1,r20.2))
abbrev zX:Type:=Bs×Int
def H8 (N:Nat) (p0:Int):Option zX :=
 chk ((!(decide (p0<0)))||(!(!(decide (p0<0))))) <|
 chk (bif decide (p0<0)then true else !(decide (p0<0))) <|
 chk (bif decide (p0<0)then true else true) <|
 bif bif decide (p0<0)then true else decide (p0>65535)then(some (([]:Bs),1))
 else(Ak (X:=Int) (Y:=Int) (fun t4a k1 x2 =>
 chk (decide (0≤IntKind.u64.wrap t4a)) <|
 let x17:Bool:=decide ((p0.fdiv (2 ^ (min (IntKind.u64.wrap t4a).toNat 64)))>0)
 bif x17 then(k1 (i64.wrap (t4a+1)))
 else(x2 t4a))
 N 0 (fun t4b =>
 let x23:Int:=i64.wrap ((1:Int)+(i64.wrap ((i64.wrap (t4b+7)).tdiv 8)))
 chk (decide (x23≤x23)) <|
 chk (decide (0≤x23)) <|
 chk (decide (x23*2≤140737488355328)) <|
 let x28:Int:=i64.wrap (((List.replicate x23.toNat 0:List Int).length:Int) - 1)
 let x32:Int:=IntKind.u8.wrap (i64.wrap ((i64.wrap ((8:Int)*x28)) - t4b))
 chk (decide (0<((List.replicate x23.toNat 0:List Int).length:Int))) <|
 chk (decide (0<(List.replicate x23.toNat 0:List Int).length)) <|
 Ak (X:=Int×List Int) (Y:=(List Int)) (U2 fun t35c l38912c k3 x4 =>
 bif decide (t35c<t4b)then(chk (decide (0≤IntKind.u64.wrap t35c)) <|
 let x42:Int:=BP .and .i64 (p0.fdiv (2 ^ (min (IntKind.u64.wrap t35c).toNat 64))) 1
 bif (x42==1)then(chk (decide (0≤i64.wrap ((1:Int)+(i64.wrap (t35c.tdiv 8))))) <|
 chk (decide (i64.wrap ((1:Int)+(i64.wrap (t35c.tdiv 8)))<(l38912c.length:Int))) <|
 chk (decide ((i64.wrap ((1:Int)+(i64.wrap (t35c.tdiv 8)))).toNat<l38912c.length)) <|
 let x49:Int:=(l38912c.getD ((i64.wrap ((1:Int)+(i64.wrap (t35c.tdiv 8)))).toNat) 0)
 chk (decide (0≤IntKind.u64.wrap ((7:Int) - (IntKind.u64.wrap (t35c.tmod 8))))) <|
 let x54:Int:=IntKind.u8.wrap ((1:Int)*(2 ^ (min (IntKind.u64.wrap ((7:Int) - (IntKind.u64.wrap (t35c.tmod 8)))).toNat 8)))
 chk (decide (0≤i64.wrap ((1:Int)+(i64.wrap (t35c.tdiv 8))))) <|
 chk (decide (i64.wrap ((1:Int)+(i64.wrap (t35c.tdiv 8)))<(l38912c.length:Int))) <|
 chk (decide ((i64.wrap ((1:Int)+(i64.wrap (t35c.tdiv 8)))).toNat<l38912c.length)) <|
 let y38912:List Int:=l38912c.set ((i64.wrap ((1:Int)+(i64.wrap (t35c.tdiv 8)))).toNat) (BP .or .u8 x49 x54)
 k3 (i64.wrap (t35c+1),y38912))
 else(k3 (i64.wrap (t35c+1),l38912c)))
 else(x4 l38912c))
 N (0,(List.replicate x23.toNat 0:List Int).set 0 x32) (fun l38912d =>
 chk (List.all l38912d isByte) <|
 some (List.map byteOf l38912d,0))))
abbrev gG:Type:=Bs×Bool
def EY (N:Nat) (p0:Bool) (p1:Yq4):Option gG :=
 Ad (H8 N p1.2.2.2.1) fun r9 =>
 Ad (BI N p0 r9.1 r9.2) fun r12 =>
 Ad (Aq N r12.2 3 ([r12.1]:List Bs)) fun r14 =>
 some (r14.1,r14.2)
abbrev Ak9:Type:=List Int
def XZ (N:Nat) (p0:List Int) (p1:Int):Option Ak9 :=
 Ak (X:=Int×List Int) (Y:=(Int×List Int)) (U2 fun t5a l0a k1 x2 =>
 chk (decide (0≤IntKind.u64.wrap ((7:Int)*(IntKind.u64.wrap t5a)))) <|
 let x11:Int:=p1.fdiv (2 ^ (min (IntKind.u64.wrap ((7:Int)*(IntKind.u64.wrap t5a))).toNat 64))
 bif decide (x11>0)then(k1 (i64.wrap (t5a+1),l0a))
 else(x2 (t5a,l0a)))
 N (1,p0) (U2 fun t5b l0b =>
 Ak (X:=Int×List Int) (Y:=(List Int)) (U2 fun t6c l1008192c k3 x4 =>
 bif decide (t6c>0)then(chk (decide (0≤IntKind.u64.wrap ((7:Int)*(IntKind.u64.wrap t6c)))) <|
 let x26:Int:=p1.fdiv (2 ^ (min (IntKind.u64.wrap ((7:Int)*(IntKind.u64.wrap t6c))).toNat 64))
 chk (decide ((l1008192c.length+1)*2≤140737488355328)) <|
 let y40704:List Int:=l1008192c++([IntKind.u8.wrap (BP .or .i64 (BP .and .i64 x26 127) 128)]:List Int)
 k3 (i64.wrap (t6c - 1),y40704))
 else(x4 l1008192c))
 N (i64.wrap (t5b - 1),l0b) (fun l1012288d =>
 chk (decide ((l1012288d.length+1)*2≤140737488355328)) <|
 some (l1012288d++([IntKind.u8.wrap (BP .and .i64 p1 127)]:List Int))))
abbrev Afz:Type:=Bs×Int
def Pq (N:Nat) (p0:Bs):Option Afz :=
 Ad (UG N p0) fun r9 =>
 bif r9.isEmpty then(some (([]:Bs),11))
 else(chk (decide (0<(r9.length:Int))) <|
 chk (decide (1<(r9.length:Int))) <|
 let x19:Int:=i64.wrap ((i64.wrap ((40:Int)*(r9.getD 0 0)))+(r9.getD 1 0))
 Ad (XZ N ([]:List Int) x19) fun r20 =>
 chk (decide (2≤(r9.length:Int))) <|
 Ak (X:=Int×List Int) (Y:=(List Int)) (U2 fun t24a l1000000a k1 x2 =>
 bif decide (t24a<((AO r9 2 r9.length).length:Int))then(chk (decide (0≤t24a)) <|
 chk (decide (t24a<((AO r9 2 r9.length).length:Int))) <|
 Ad (XZ N l1000000a ((AO r9 2 r9.length).getD t24a.toNat 0)) fun r30 =>
 k1 (i64.wrap (t24a+1),r30))
 else(x2 l1000000a))
 N (0,r20) (fun l1004096b =>
 chk (List.all l1004096b isByte) <|
 some (List.map byteOf l1004096b,0)))
abbrev xK:Type:=Bs×Bool
def FZ (N:Nat) (p0:Bool) (p1:Bs):Option xK :=
 Ad (Pq N p1) fun r8 =>
 Ad (BI N p0 r8.1 r8.2) fun r11 =>
 Ad (Aq N r11.2 6 ([r11.1]:List Bs)) fun r13 =>
 some (r13.1,r13.2)
abbrev X7:Type:=Bs×Bool
def DY (N:Nat) (p0:Bool) (p1:Yq4):Option X7 :=
 Ak (X:=Int×Bool×List Bs) (Y:=(Bool×List Bs)) (U3 fun t11a b0_0a l1000000a k1 x2 =>
 bif decide (t11a<(p1.2.2.2.2.1.length:Int))then(chk (decide (0≤t11a)) <|
 chk (decide (t11a<(p1.2.2.2.2.1.length:Int))) <|
 Ad (FZ N b0_0a (p1.2.2.2.2.1.getD t11a.toNat ([]:Bs))) fun r18 =>
 chk (decide ((l1000000a.length+1)*17≤140737488355328)) <|
 k1 (i64.wrap (t11a+1),r18.2,l1000000a++([r18.1]:List Bs)))
 else(x2 (b0_0a,l1000000a)))
 N (0,p0,([]:List Bs)) (U2 fun b0_0b l1004096b =>
 Ad (AZ N b0_0b l1004096b) fun r24 =>
 some (r24.1,r24.2))
abbrev X4:Type:=Bs×Bool
def DX (N:Nat) (p0:Bool) (p1:Yq4):Option X4 :=
 Ak (X:=Int×Bool×List Bs) (Y:=(Bool×List Bs)) (U3 fun t11a b0_0a l1000000a k1 x2 =>
 bif decide (t11a<(p1.2.2.2.2.2.1.length:Int))then(chk (decide (0≤t11a)) <|
 chk (decide (t11a<(p1.2.2.2.2.2.1.length:Int))) <|
 Ad (FZ N b0_0a (p1.2.2.2.2.2.1.getD t11a.toNat ([]:Bs))) fun r19 =>
 Ad (AZ N r19.2 ([r19.1]:List Bs)) fun r21 =>
 chk (decide ((l1000000a.length+1)*17≤140737488355328)) <|
 k1 (i64.wrap (t11a+1),r21.2,l1000000a++([r21.1]:List Bs)))
 else(x2 (b0_0a,l1000000a)))
 N (0,p0,([]:List Bs)) (U2 fun b0_0b l1004096b =>
 Ad (AZ N b0_0b l1004096b) fun r27 =>
 some (r27.1,r27.2))
abbrev Xy:Type:=Bs×Bool
def DW (N:Nat) (p0:Bool) (p1:Yq4):Option Xy :=
 Ak (X:=Int×Bool×List Bs) (Y:=(Bool×List Bs)) (U3 fun t11a b0_0a l1000000a k1 x2 =>
 bif decide (t11a<(p1.2.2.2.2.2.2.1.length:Int))then(chk (decide (0≤t11a)) <|
 chk (decide (t11a<(p1.2.2.2.2.2.2.1.length:Int))) <|
 Ad (FZ N b0_0a ((p1.2.2.2.2.2.2.1.getD t11a.toNat (([]:Bs),([]:Bs))).1)) fun r20 =>
 Ad (FZ N r20.2 ((p1.2.2.2.2.2.2.1.getD t11a.toNat (([]:Bs),([]:Bs))).2)) fun r24 =>
 Ad (AZ N r24.2 ([r20.1,r24.1]:List Bs)) fun r26 =>
 chk (decide ((l1000000a.length+1)*17≤140737488355328)) <|
 k1 (i64.wrap (t11a+1),r26.2,l1000000a++([r26.1]:List Bs)))
 else(x2 (b0_0a,l1000000a)))
 N (0,p0,([]:List Bs)) (U2 fun b0_0b l1004096b =>
 Ad (AZ N b0_0b l1004096b) fun r32 =>
 some (r32.1,r32.2))
abbrev bT:Type:=Bs×Bool
def EJ (N:Nat) (p0:Bool) (p1:Yq4):Option bT :=
 Ak (X:=Int×Bool×List Bs×List Int) (Y:=(Bool×List Bs)) (U4 fun t15a b0_0a l34816a l36096a k1 x2 =>
 bif decide (t15a<2)then(chk (decide (0≤t15a)) <|
 chk (decide (t15a<(l36096a.length:Int))) <|
 chk (decide (t15a.toNat<l36096a.length)) <|
 bif ((l36096a.getD t15a.toNat 0) != ((-1):Int))then(Ad (FX N (l36096a.getD t15a.toNat 0)) fun r28 =>
 Ad (Aq N b0_0a (i64.wrap ((128:Int)+t15a)) ([r28]:List Bs)) fun r30 =>
 chk (decide (0≤t15a)) <|
 chk (decide (t15a<(l34816a.length:Int))) <|
 chk (decide (t15a.toNat<l34816a.length)) <|
 k1 (i64.wrap (t15a+1),r30.2,l34816a.set t15a.toNat r30.1,l36096a))
 else(k1 (i64.wrap (t15a+1),b0_0a,l34816a,l36096a)))
 else(x2 (b0_0a,l34816a)))
 N (0,p0,([([]:Bs),([]:Bs)]:List Bs),([p1.2.2.2.2.2.2.2.1,p1.2.2.2.2.2.2.2.2.1]:List Int)) (U2 fun b0_0b l34816b =>
 Ad (AZ N b0_0b l34816b) fun r35 =>
 some (r35.1,r35.2))
abbrev YG:Type:=Bs×Bool
def Ei (N:Nat) (p0:Bool) (p1:Yq4):Option YG :=
 Ad (IW N p0 p1.2.2.2.2.2.2.2.2.2.1) fun r8 =>
 some (r8.1,r8.2)
abbrev Vu:Type:=Bs×Int
def FV (N:Nat) (p0:Bs×Int×Bs):Option Vu :=
 Ad (Pq N p0.1) fun r11 =>
 bif (r11.2 != 0)then(some (([]:Bs),r11.2))
 else(Ad (BR N 6 ([r11.1]:List Bs)) fun r20 =>
 bif (r20.2 != 0)then(some (([]:Bs),r20.2))
 else(Ad (BR N p0.2.1 ([p0.2.2]:List Bs)) fun r32 =>
 bif (r32.2 != 0)then(some (([]:Bs),r32.2))
 else(Ad (BR N 48 ([r20.1,r32.1]:List Bs)) fun r41 =>
 some (r41.1,r41.2))))
abbrev AaM:Type:=Bs×Int
def OQ (N:Nat) (p0:List Yq0):Option AaM :=
 Ad (Iz N p0) fun r16 =>
 bif (r16 != 0)then(some (([]:Bs),r16))
 else(Ak (X:=Int×List Bs) (Y:=(List Bs)) (U2 fun t23a l1000000a k1 x2 =>
 bif decide (t23a<(p0.length:Int))then(chk (decide (0≤t23a)) <|
 chk (decide (t23a<(p0.length:Int))) <|
 Ak (X:=Int×List Bs×List Bs) (Y:=(List Bs×List Bs)) (U3 fun t29b l1004096b l1004112b k3 x4 =>
 let x30:Bool:=decide (t29b<((p0.getD t23a.toNat ([]:List (Bs×Int×Bs))).length:Int))
 bif x30 then(chk (decide (0≤t29b)) <|
 chk (decide (t29b<((p0.getD t23a.toNat ([]:List (Bs×Int×Bs))).length:Int))) <|
 Ad (FV N ((p0.getD t23a.toNat ([]:List (Bs×Int×Bs))).getD t29b.toNat (([]:Bs),0,([]:Bs)))) fun r35 =>
 bif (r35.2 != 0)then(some (([]:Bs),r35.2))
 else(chk (decide ((l1004096b.length+1)*17≤140737488355328)) <|
 k3 (i64.wrap (t29b+1),l1004096b++([r35.1]:List Bs),l1004112b)))
 else(x4 (l1004096b,l1004112b)))
 N (0,([]:List Bs),l1000000a) (U2 fun l1008192c l1008208c =>
 Ad (Lt N l1008192c) fun r48 =>
 Ad (BR N 49 ([r48]:List Bs)) fun r50 =>
 bif (r50.2 != 0)then(some (([]:Bs),r50.2))
 else(chk (decide ((l1008208c.length+1)*17≤140737488355328)) <|
 k1 (i64.wrap (t23a+1),l1008208c++([r50.1]:List Bs)))))
 else(x2 l1000000a))
 N (0,([]:List Bs)) (fun l1012288d =>
 Ad (BR N 48 l1012288d) fun r62 =>
 some (r62.1,r62.2)))
abbrev AaV:Type:=Bs×Int
def FI (N:Nat) (p0:Yq1) (p1:Bool):Option AaV :=
 Ad (JX N p0 p1) fun r11 =>
 bif (r11 != 0)then(some (([]:Bs),r11))
 else(bif (p0.1 != 4)then(Ad (BR N (i64.wrap ((128:Int)+p0.1)) ([p0.2.1]:List Bs)) fun r24 =>
 some (r24.1,r24.2))
 else(Ad (OQ N p0.2.2) fun r30 =>
 bif (r30.2 != 0)then(some (([]:Bs),r30.2))
 else(Ad (BR N (i64.wrap ((160:Int)+p0.1)) ([r30.1]:List Bs)) fun r41 =>
 some (r41.1,r41.2))))
abbrev AcM:Type:=Int
def WJ (N:Nat) (p0:Int):Option AcM :=
 bif (p0==0)then(some 7)
 else(bif decide (p0>16)then(some 2)
 else(some 0))
abbrev iJ:Type:=Bs×Int
def Fa (N:Nat) (p0:List Yq1):Option iJ :=
 Ad (WJ N (p0.length:Int)) fun r12 =>
 bif (r12 != 0)then(some (([]:Bs),r12))
 else(Ak (X:=Bs×Int) (Y:=Bs) (U2 fun t5a t18a k1 x2 =>
 bif decide (t18a<(p0.length:Int))then(chk (decide (0≤t18a)) <|
 chk (decide (t18a<(p0.length:Int))) <|
 Ad (FI N (p0.getD t18a.toNat (0,([]:Bs),([]:List Yq0))) false) fun r24 =>
 bif (r24.2 != 0)then(some (([]:Bs),r24.2))
 else(chk (decide (t5a.length+r24.1.length≤140737488355328)) <|
 k1 (t5a++r24.1,i64.wrap (t18a+1))))
 else(x2 t5a))
 N (([]:Bs),0) (fun t5b =>
 some (t5b,0)))
abbrev fZ:Type:=Bs×Bool
def EX (N:Nat) (p0:Bool) (p1:Yq4):Option fZ :=
 Ad (Fa N p1.2.2.2.2.2.2.2.2.2.2.1) fun r9 =>
 Ad (BI N p0 r9.1 r9.2) fun r12 =>
 Ad (AZ N r12.2 ([r12.1]:List Bs)) fun r14 =>
 some (r14.1,r14.2)
abbrev ZY:Type:=Bs×Int
def DI (N:Nat) (p0:Int) (p1:List Yq1):Option ZY :=
 bif ((p1.length:Int)==0)then(some (([]:Bs),0))
 else(Ak (X:=Int×List Bs) (Y:=(List Bs)) (U2 fun t17a l1000000a k1 x2 =>
 bif decide (t17a<(p1.length:Int))then(chk (decide (0≤t17a)) <|
 chk (decide (t17a<(p1.length:Int))) <|
 Ad (FI N (p1.getD t17a.toNat (0,([]:Bs),([]:List Yq0))) true) fun r23 =>
 bif (r23.2 != 0)then(some (([]:Bs),r23.2))
 else(Ad (BR N 48 ([r23.1]:List Bs)) fun r32 =>
 bif (r32.2 != 0)then(some (([]:Bs),r32.2))
 else(chk (decide ((l1000000a.length+1)*17≤140737488355328)) <|
 k1 (i64.wrap (t17a+1),l1000000a++([r32.1]:List Bs)))))
 else(x2 l1000000a))
 N (0,([]:List Bs)) (fun l1004096b =>
 Ad (BR N p0 l1004096b) fun r45 =>
 some (r45.1,r45.2)))
abbrev wR:Type:=Bs×Int
def Md (N:Nat) (p0:Yq6):Option wR :=
 Ad (JU N p0) fun r10 =>
 bif (r10 != 0)then(some (([]:Bs),r10))
 else(Ad (DI N 160 p0.1) fun r17 =>
 bif (r17.2 != 0)then(some (([]:Bs),2))
 else(Ad (DI N 161 p0.2) fun r25 =>
 bif (r25.2 != 0)then(some (([]:Bs),2))
 else(Ad (BR N 48 ([r17.1,r25.1]:List Bs)) fun r34 =>
 bif (r34.2 != 0)then(some (([]:Bs),2))
 else(some (r34.1,0)))))
abbrev Uh:Type:=Bs×Bool
def Eb (N:Nat) (p0:Bool) (p1:Yq4):Option Uh :=
 Ad (Md N (p1.2.2.2.2.2.2.2.2.2.2.2.2.1,p1.2.2.2.2.2.2.2.2.2.2.2.2.2.1)) fun r8 =>
 Ad (BI N p0 r8.1 r8.2) fun r11 =>
 some (r11.1,r11.2)
abbrev YJ:Type:=Bs×Bool
def Ej (N:Nat) (p0:Bool) (p1:Yq4):Option YJ :=
 Ad (Aq N p0 4 ([p1.2.2.2.2.2.2.2.2.2.2.2.2.2.2.1]:List Bs)) fun r9 =>
 some (r9.1,r9.2)
abbrev Wv:Type:=Bs×Bool
def DN (N:Nat) (p0:Bool) (p1:Yq4):Option Wv :=
 Ad (Aq N p0 128 ([p1.2.2.2.2.2.2.2.2.2.2.2.2.2.2.2.1]:List Bs)) fun r10 =>
 Ad (AZ N r10.2 ([r10.1]:List Bs)) fun r12 =>
 some (r12.1,r12.2)
abbrev Wq:Type:=Bs×Int
def Eu (N:Nat) (p0:List Yq2):Option Wq :=
 bif ((p0.length:Int)==0)then(some (([]:Bs),7))
 else(Ad (CW N p0) fun r16 =>
 bif (r16 != 0)then(some (([]:Bs),r16))
 else(Ak (X:=Int×Bool×List Bs) (Y:=(Bool×List Bs)) (U3 fun t24a b38144_0a l1000000a k1 x2 =>
 bif decide (t24a<(p0.length:Int))then(chk (decide (0≤t24a)) <|
 chk (decide (t24a<(p0.length:Int))) <|
 CS (α :=List Yq1×Int×Bool×List Yq0×Bool×List Bs×List Bs) (fun j3 =>
 let x31:Int:=(((p0.getD t24a.toNat (([]:List Yq1),0,false,([]:List Yq0))).1).length:Int)
 bif decide (x31>0)then(Ad (Fa N ((p0.getD t24a.toNat (([]:List Yq1),0,false,([]:List Yq0))).1)) fun r39 =>
 Ad (BI N b38144_0a r39.1 r39.2) fun r42 =>
 Ad (Aq N r42.2 160 ([r42.1]:List Bs)) fun r44 =>
 Ad (Aq N r44.2 160 ([r44.1]:List Bs)) fun r46 =>
 j3 ((p0.getD t24a.toNat (([]:List Yq1),0,false,([]:List Yq0))).1,(p0.getD t24a.toNat (([]:List Yq1),0,false,([]:List Yq0))).2.1,(p0.getD t24a.toNat (([]:List Yq1),0,false,([]:List Yq0))).2.2.1,(p0.getD t24a.toNat (([]:List Yq1),0,false,([]:List Yq0))).2.2.2,r46.2,([r46.1,([]:Bs),([]:Bs)]:List Bs),l1000000a))
 else(j3 ((p0.getD t24a.toNat (([]:List Yq1),0,false,([]:List Yq0))).1,(p0.getD t24a.toNat (([]:List Yq1),0,false,([]:List Yq0))).2.1,(p0.getD t24a.toNat (([]:List Yq1),0,false,([]:List Yq0))).2.2.1,(p0.getD t24a.toNat (([]:List Yq1),0,false,([]:List Yq0))).2.2.2,b38144_0a,([([]:Bs),([]:Bs),([]:Bs)]:List Bs),l1000000a)))
 (U7 fun b34816_0b b34816_1b b34816_2b b34816_3b b38144_0b l39936b l1004096b =>
 CS (α :=List Yq1×Int×Bool×List Yq0×Bool×List Bs×List Bs) (fun j4 =>
 bif (b34816_1b != 0)then(Ad (H8 N b34816_1b) fun r56 =>
 Ad (BI N b38144_0b r56.1 r56.2) fun r59 =>
 Ad (Aq N r59.2 129 ([r59.1]:List Bs)) fun r61 =>
 chk (decide (1<(l39936b.length:Int))) <|
 chk (decide (1<l39936b.length)) <|
 j4 (b34816_0b,b34816_1b,b34816_2b,b34816_3b,r61.2,l39936b.set 1 r61.1,l1004096b))
 else(j4 (b34816_0b,b34816_1b,b34816_2b,b34816_3b,b38144_0b,l39936b,l1004096b)))
 (U7 fun b34816_0c b34816_1c b34816_2c b34816_3c b38144_0c l39936c l1008192c =>
 CS (α :=Bool×List Bs×List Bs) (fun j5 =>
 bif b34816_2c then(Ad (FI N (4,([]:Bs),b34816_3c) false) fun r72 =>
 Ad (BI N b38144_0c r72.1 r72.2) fun r75 =>
 Ad (Aq N r75.2 162 ([r75.1]:List Bs)) fun r77 =>
 chk (decide (2<(l39936c.length:Int))) <|
 chk (decide (2<l39936c.length)) <|
 j5 (r77.2,l39936c.set 2 r77.1,l1008192c))
 else(j5 (b38144_0c,l39936c,l1008192c)))
 (U3 fun b38144_0d l39936d l1012288d =>
 Ad (AZ N b38144_0d l39936d) fun r82 =>
 chk (decide ((l1012288d.length+1)*17≤140737488355328)) <|
 k1 (i64.wrap (t24a+1),r82.2,l1012288d++([r82.1]:List Bs))))))
 else(x2 (b38144_0a,l1000000a)))
 N (0,false,([]:List Bs)) (U2 fun b38144_0e l1016384e =>
 Ad (AZ N b38144_0e l1016384e) fun r88 =>
 Ad (IV N r88.2) fun r90 =>
 bif r90.1 then(some (([]:Bs),2))
 else(some (r88.1,0)))))
abbrev bV:Type:=Bs×Bool
def Gi (N:Nat) (p0:Bool) (p1:Yq4):Option bV :=
 Ad (Eu N p1.2.2.2.2.2.2.2.2.2.2.2.2.2.2.2.2.1) fun r8 =>
 Ad (BI N p0 r8.1 r8.2) fun r11 =>
 some (r11.1,r11.2)
abbrev Xv:Type:=Bs×Bool
def EP (N:Nat) (p0:Bool) (p1:Yq4):Option Xv :=
 Ad (Eu N p1.2.2.2.2.2.2.2.2.2.2.2.2.2.2.2.2.2.1) fun r8 =>
 Ad (BI N p0 r8.1 r8.2) fun r11 =>
 some (r11.1,r11.2)
def AaH (N n:Nat) (a:Bool×Yq4):Option (Bs×Bool) :=
  bif Nat.beq n 112 then EW N a.1 a.2 else
  bif Nat.beq n 115 then EY N a.1 a.2 else
  bif Nat.beq n 118 then DY N a.1 a.2 else
  bif Nat.beq n 121 then DX N a.1 a.2 else
  bif Nat.beq n 124 then DW N a.1 a.2 else
  bif Nat.beq n 127 then EJ N a.1 a.2 else
  bif Nat.beq n 130 then Ei N a.1 a.2 else
  bif Nat.beq n 133 then EX N a.1 a.2 else
  bif Nat.beq n 136 then Eb N a.1 a.2 else
  bif Nat.beq n 139 then Ej N a.1 a.2 else
  bif Nat.beq n 142 then DN N a.1 a.2 else
  bif Nat.beq n 145 then Gi N a.1 a.2 else
  bif Nat.beq n 148 then EP N a.1 a.2 else
  none
abbrev rW:Type:=Yq3×Int
def EU (N:Nat) (p0:Yq4):Option rW :=
 Ad (H6 N p0) fun r10 =>
 bif (r10 != 0)then(some (([]:List (Bs×Bool×Bs)),r10))
 else(Ad (FD N) fun r16 =>
 Ak (X:=Int×Bool×Bool×Int×Int×List Bs×List Bs×(List (Bs×Bs))×Int×Int×Int×List Yq1×Bool×List Yq1×List Yq1×Bs×Bs×List Yq2×List Yq2×(List (Bs×Bool×Bs))×Bool×List (Bs×Bool×Bs)) (Y:=(Bool×Bool×Int×Int×List Bs×List Bs×(List (Bs×Bs))×Int×Int×Int×List Yq1×Bool×List Yq1×List Yq1×Bs×Bs×List Yq2×List Yq2×(List (Bs×Bool×Bs))×Bool×List (Bs×Bool×Bs))) (U22 fun t18a b33024_0a b33024_1a b33024_2a b33024_3a b33024_4a b33024_5a b33024_6a b33024_7a b33024_8a b33024_9a b33024_10a b33024_11a b33024_12a b33024_13a b33024_14a b33024_15a b33024_16a b33024_17a b33024_18a b36608_0a l1000000a k1 x2 =>
 bif decide (t18a<(r16.length:Int))then(chk (decide (0≤t18a)) <|
 chk (decide (t18a<(r16.length:Int))) <|
 Ad (mM N ((r16.getD t18a.toNat (([]:Bs),0,0,0,0)).2.2.1) (b33024_0a,b33024_1a,b33024_2a,b33024_3a,b33024_4a,b33024_5a,b33024_6a,b33024_7a,b33024_8a,b33024_9a,b33024_10a,b33024_11a,b33024_12a,b33024_13a,b33024_14a,b33024_15a,b33024_16a,b33024_17a,b33024_18a)) fun r25 =>
 bif r25 then(chk ((!(((r16.getD t18a.toNat (([]:Bs),0,0,0,0)).2.1)==1))||(!(!(((r16.getD t18a.toNat (([]:Bs),0,0,0,0)).2.1)==1)))) <|
 chk ((!(((r16.getD t18a.toNat (([]:Bs),0,0,0,0)).2.1)==1))||(!(!(((r16.getD t18a.toNat (([]:Bs),0,0,0,0)).2.1)==1)))) <|
 let x35:Bool:=(((r16.getD t18a.toNat (([]:Bs),0,0,0,0)).1)==([50,46,53,46,50,57,46,51,51]:Bs))
 chk (bif (((r16.getD t18a.toNat (([]:Bs),0,0,0,0)).2.1)==1)then true else !(((r16.getD t18a.toNat (([]:Bs),0,0,0,0)).2.1)==1)) <|
 chk (bif (((r16.getD t18a.toNat (([]:Bs),0,0,0,0)).2.1)==1)then true else true) <|
 let x36:Bool:=bif (((r16.getD t18a.toNat (([]:Bs),0,0,0,0)).2.1)==1)then true else x35
 Ad (AaH N ((r16.getD t18a.toNat (([]:Bs),0,0,0,0)).2.2.2.1) (b36608_0a,(b33024_0a,b33024_1a,b33024_2a,b33024_3a,b33024_4a,b33024_5a,b33024_6a,b33024_7a,b33024_8a,b33024_9a,b33024_10a,b33024_11a,b33024_12a,b33024_13a,b33024_14a,b33024_15a,b33024_16a,b33024_17a,b33024_18a))) fun r41 =>
 chk (decide ((l1000000a.length+1)*41≤140737488355328)) <|
 let y44032:List (Bs×Bool×Bs):=l1000000a++([((r16.getD t18a.toNat (([]:Bs),0,0,0,0)).1,x36,r41.1)]:List (Bs×Bool×Bs))
 k1 (i64.wrap (t18a+1),b33024_0a,b33024_1a,b33024_2a,b33024_3a,b33024_4a,b33024_5a,b33024_6a,b33024_7a,b33024_8a,b33024_9a,b33024_10a,b33024_11a,b33024_12a,b33024_13a,b33024_14a,b33024_15a,b33024_16a,b33024_17a,b33024_18a,r41.2,y44032))
 else(k1 (i64.wrap (t18a+1),b33024_0a,b33024_1a,b33024_2a,b33024_3a,b33024_4a,b33024_5a,b33024_6a,b33024_7a,b33024_8a,b33024_9a,b33024_10a,b33024_11a,b33024_12a,b33024_13a,b33024_14a,b33024_15a,b33024_16a,b33024_17a,b33024_18a,b36608_0a,l1000000a)))
 else(x2 (b33024_0a,b33024_1a,b33024_2a,b33024_3a,b33024_4a,b33024_5a,b33024_6a,b33024_7a,b33024_8a,b33024_9a,b33024_10a,b33024_11a,b33024_12a,b33024_13a,b33024_14a,b33024_15a,b33024_16a,b33024_17a,b33024_18a,b36608_0a,l1000000a)))
 N (0,p0.1,p0.2.1,p0.2.2.1,p0.2.2.2.1,p0.2.2.2.2.1,p0.2.2.2.2.2.1,p0.2.2.2.2.2.2.1,p0.2.2.2.2.2.2.2.1,p0.2.2.2.2.2.2.2.2.1,p0.2.2.2.2.2.2.2.2.2.1,p0.2.2.2.2.2.2.2.2.2.2.1,p0.2.2.2.2.2.2.2.2.2.2.2.1,p0.2.2.2.2.2.2.2.2.2.2.2.2.1,p0.2.2.2.2.2.2.2.2.2.2.2.2.2.1,p0.2.2.2.2.2.2.2.2.2.2.2.2.2.2.1,p0.2.2.2.2.2.2.2.2.2.2.2.2.2.2.2.1,p0.2.2.2.2.2.2.2.2.2.2.2.2.2.2.2.2.1,p0.2.2.2.2.2.2.2.2.2.2.2.2.2.2.2.2.2.1,p0.2.2.2.2.2.2.2.2.2.2.2.2.2.2.2.2.2.2,false,([]:List (Bs×Bool×Bs))) (U21 fun b33024_0b b33024_1b b33024_2b b33024_3b b33024_4b b33024_5b b33024_6b b33024_7b b33024_8b b33024_9b b33024_10b b33024_11b b33024_12b b33024_13b b33024_14b b33024_15b b33024_16b b33024_17b b33024_18b b36608_0b l1004096b =>
 Ad (IV N b36608_0b) fun r47 =>
 bif r47.1 then(some (([]:List (Bs×Bool×Bs)),2))
 else(chk (decide ((l1004096b.length+b33024_18b.length)*41≤140737488355328)) <|
 some (l1004096b++b33024_18b,0))))
abbrev Aa8:Type:=Yq4
def GG (N:Nat):Option Aa8 :=
 some (false,false,(-1),0,([]:List Bs),([]:List Bs),([]:List (Bs×Bs)),(-1),(-1),(-1),([]:List Yq1),false,([]:List Yq1),([]:List Yq1),([]:Bs),([]:Bs),([]:List Yq2),([]:List Yq2),([]:List (Bs×Bool×Bs)))
abbrev AcZ:Type:=Bool
def Na (N:Nat):Option AcZ :=
 Ad (GG N) fun r6 =>
 Ad (EU N (true,true,0,r6.2.2.2.1,r6.2.2.2.2.1,r6.2.2.2.2.2.1,r6.2.2.2.2.2.2.1,r6.2.2.2.2.2.2.2.1,r6.2.2.2.2.2.2.2.2.1,r6.2.2.2.2.2.2.2.2.2.1,r6.2.2.2.2.2.2.2.2.2.2.1,r6.2.2.2.2.2.2.2.2.2.2.2.1,r6.2.2.2.2.2.2.2.2.2.2.2.2.1,r6.2.2.2.2.2.2.2.2.2.2.2.2.2.1,r6.2.2.2.2.2.2.2.2.2.2.2.2.2.2.1,r6.2.2.2.2.2.2.2.2.2.2.2.2.2.2.2.1,r6.2.2.2.2.2.2.2.2.2.2.2.2.2.2.2.2.1,r6.2.2.2.2.2.2.2.2.2.2.2.2.2.2.2.2.2.1,r6.2.2.2.2.2.2.2.2.2.2.2.2.2.2.2.2.2.2)) fun r12 =>
 Ad (GG N) fun r16 =>
 Ad (EU N r16) fun r17 =>
 Af (r12.2==0) fun b1 =>
 chk (b1||(!b1)) <|
 chk (b1||(!b1)) <|
 chk (bif b1 then b1 else true) <|
 chk (bif b1 then true else true) <|
 Af (bif b1 then((r12.1.length:Int)==1)else false) fun b2 =>
 Af (b2) fun b3 =>
 chk (b3||(!b3)) <|
 chk ((decide (0<(r12.1.length:Int)))||(!b3)) <|
 chk (b3||(!b3)) <|
 chk (b3||(!b3)) <|
 chk (b3||(!b3)) <|
 let x32:Bool:=((((r12.1.getD 0 (([]:Bs),false,([]:Bs))).1)==([50,46,53,46,50,57,46,49,57]:Bs))&&((((r12.1.getD 0 (([]:Bs),false,([]:Bs))).2.1)==true)&&((((r12.1.getD 0 (([]:Bs),false,([]:Bs))).2.2)==([48,6,1,1,255,2,1,0]:Bs))&&true)))
 chk (bif b3 then b3 else true) <|
 chk (bif b3 then true else true) <|
 Af (bif b3 then x32 else false) fun b4 =>
 Af (b4) fun b5 =>
 chk (b5||(!b5)) <|
 chk (bif b5 then b5 else true) <|
 chk (bif b5 then true else true) <|
 Af (bif b5 then(r17.2==0)else false) fun b6 =>
 Af (b6) fun b7 =>
 chk (b7||(!b7)) <|
 chk (b7||(!b7)) <|
 chk (bif b7 then b7 else true) <|
 chk (bif b7 then true else true) <|
 Af (bif b7 then((r17.1.length:Int)==0)else false) fun b8 =>
 some b8
abbrev AfW:Type:=Yq4
def ZF (N:Nat):Option AfW :=
 some (false,false,(-1),0,([]:List Bs),([]:List Bs),([]:List (Bs×Bs)),(-1),(-1),(-1),([]:List Yq1),false,([]:List Yq1),([]:List Yq1),([]:Bs),([]:Bs),([]:List Yq2),([]:List Yq2),([]:List (Bs×Bool×Bs)))
abbrev uQ:Type:=Int×List Int×Int
def Ap (N:Nat) (p0:List Int×Int) (p1:Int):Option uQ :=
 bif decide (p0.2≥(p0.1.length:Int))then(some (0,p0))
 else(chk (decide (0≤i64.wrap ((i64.wrap (p0.2+1)) - 1))) <|
 chk (decide (i64.wrap ((i64.wrap (p0.2+1)) - 1)<(p0.1.length:Int))) <|
 let x32:Int:=(p0.1.getD ((i64.wrap ((i64.wrap (p0.2+1)) - 1)).toNat) 0)
 chk (p1 != 0) <|
 chk (p1 != 0) <|
 some ((i64.wrap ((x32.tmod p1)+p1)).tmod p1,(p0.1,i64.wrap (p0.2+1))))
abbrev uZ:Type:=(Bs×Int×Bs)×List Int×Int
def LU (N:Nat) (p0:List Int×Int):Option uZ :=
 Ad (Ap N p0 12) fun r17 =>
 chk (decide (0≤r17.1)) <|
 chk (decide (r17.1<12)) <|
 chk (decide (r17.1.toNat<12)) <|
 some ((([(([50,46,53,46,52,46,51]:Bs),12,([65,110,110]:Bs)),(([50,46,53,46,52,46,51]:Bs),19,([32,97,110,110]:Bs)),(([50,46,53,46,52,46,51]:Bs),12,([103,114,195,182,195,159,101]:Bs)),(([50,46,53,46,52,46,54]:Bs),19,([85,83]:Bs)),(([50,46,53,46,52,46,49,48]:Bs),19,([69,120,97,109,112,108,101,32,32,67,111,114,112]:Bs)),(([50,46,53,46,52,46,49,48]:Bs),12,([101,120,97,109,112,108,101,32,99,111,114,112]:Bs)),(([50,46,53,46,52,46,49,49]:Bs),22,([97,44,98,43,99,61,100,92,101]:Bs)),(([48,46,57,46,50,51,52,50,46,49,57,50,48,48,51,48,48,46,49,48,48,46,49,46,50,53]:Bs),22,([111,114,103]:Bs)),(([49,46,50,46,56,52,48,46,49,49,51,53,52,57,46,49,46,57,46,49]:Bs),22,([97,110,110,64,101,120,97,109,112,108,101,46,111,114,103]:Bs)),(([49,46,50,46,56,52,48,46,49,49,51,53,52,57,46,49,46,57,46,49]:Bs),22,([110,111,32,97,100,100,114,101,115,115]:Bs)),(([50,46,53,46,52,46,57,57]:Bs),19,([120]:Bs)),(([50,46,53,46,52,46,55]:Bs),12,([76]:Bs))]:List (Bs×Int×Bs)).getD r17.1.toNat (([]:Bs),0,([]:Bs))),r17.2)
abbrev AgE:Type:=List Yq0×List Int×Int
def Rx (N:Nat) (p0:List Int×Int):Option AgE :=
 Ad (Ap N p0 4) fun r10 =>
 Ak (X:=Int×List Int×Int×List Yq0) (Y:=(List Int×Int×List Yq0)) (U4 fun t4a b0_0a b0_1a l1000000a k1 x2 =>
 bif decide (t4a>0)then(Ad (Ap N (b0_0a,b0_1a) 5) fun r16 =>
 Ak (X:=Int×List Int×Int×(List (Bs×Int×Bs))×List Yq0) (Y:=(List Int×Int×(List (Bs×Int×Bs))×List Yq0)) (U5 fun t6b b0_0b b0_1b l1004096b l1004112b k3 x4 =>
 bif decide (t6b>0)then(Ad (LU N (b0_0b,b0_1b)) fun r24 =>
 chk ((!((l1004096b.length:Int)==0))||(!(!((l1004096b.length:Int)==0)))) <|
 chk ((decide (0<(l1004096b.length:Int)))||(!(!((l1004096b.length:Int)==0)))) <|
 chk ((!((l1004096b.length:Int)==0))||(!(!((l1004096b.length:Int)==0)))) <|
 chk ((decide (0<l1004096b.length))||(!(!((l1004096b.length:Int)==0)))) <|
 chk ((!((l1004096b.length:Int)==0))||(!(!((l1004096b.length:Int)==0)))) <|
 chk ((decide (0<l1004096b.length))||(!(!((l1004096b.length:Int)==0)))) <|
 chk ((!((l1004096b.length:Int)==0))||(!(!((l1004096b.length:Int)==0)))) <|
 chk ((!((l1004096b.length:Int)==0))||(!(!((l1004096b.length:Int)==0)))) <|
 chk ((!((l1004096b.length:Int)==0))||(!(!((l1004096b.length:Int)==0)))) <|
 chk (bif ((l1004096b.length:Int)==0)then true else !((l1004096b.length:Int)==0)) <|
 chk (bif ((l1004096b.length:Int)==0)then true else true) <|
 let x36:Bool:=bif ((l1004096b.length:Int)==0)then true else !(((l1004096b.getD 0 (([]:Bs),0,([]:Bs))).1)==r24.1.1)
 bif x36 then(chk (decide ((l1004096b.length+1)*41≤140737488355328)) <|
 k3 (i64.wrap (t6b - 1),r24.2.1,r24.2.2,l1004096b++([r24.1]:List (Bs×Int×Bs)),l1004112b))
 else(k3 (i64.wrap (t6b - 1),r24.2.1,r24.2.2,l1004096b,l1004112b)))
 else(x4 (b0_0b,b0_1b,l1004096b,l1004112b)))
 N (i64.wrap ((1:Int)+(i64.wrap (r16.1.tdiv 4))),r16.2.1,r16.2.2,([]:List (Bs×Int×Bs)),l1000000a) (U4 fun b0_0c b0_1c l1008192c l1008208c =>
 chk (decide ((l1008208c.length+1)*25≤140737488355328)) <|
 k1 (i64.wrap (t4a - 1),b0_0c,b0_1c,l1008208c++([l1008192c]:List Yq0))))
 else(x2 (b0_0a,b0_1a,l1000000a)))
 N (r10.1,r10.2.1,r10.2.2,([]:List Yq0)) (U3 fun b0_0d b0_1d l1012288d =>
 some (l1012288d,(b0_0d,b0_1d)))
abbrev Abj:Type:=Yq1×List Int×Int
def GL (N:Nat) (p0:List Int×Int):Option Abj :=
 Ad (Ap N p0 4) fun r4 =>
 bif (r4.1==0)then(Ad (Ap N r4.2 6) fun r9 =>
 chk (decide (0≤r9.1)) <|
 chk (decide (r9.1<6)) <|
 chk (decide (r9.1.toNat<6)) <|
 let x11:Bs:=(([([97,110,110,64,101,120,97,109,112,108,101,46,111,114,103]:Bs),([65,78,78,64,101,120,97,109,112,108,101,46,111,114,103]:Bs),([97,110,110,64,69,120,97,109,112,108,101,46,79,82,71]:Bs),([98,46,99,64,109,97,105,108,46,101,120,97,109,112,108,101,46,111,114,103]:Bs),([120,64,111,114,103]:Bs),([97,39,98,64,97,46,98]:Bs)]:List Bs).getD r9.1.toNat ([]:Bs))
 some ((1,x11,([]:List Yq0)),r9.2))
 else(bif (r4.1==1)then(Ad (Ap N r4.2 7) fun r17 =>
 chk (decide (0≤r17.1)) <|
 chk (decide (r17.1<7)) <|
 chk (decide (r17.1.toNat<7)) <|
 let x19:Bs:=(([([101,120,97,109,112,108,101,46,111,114,103]:Bs),([119,119,119,46,101,120,97,109,112,108,101,46,111,114,103]:Bs),([87,87,87,46,69,120,97,109,112,108,101,46,111,114,103]:Bs),([42,46,101,120,97,109,112,108,101,46,111,114,103]:Bs),([97,46,98]:Bs),([111,114,103]:Bs),([109,121,101,120,97,109,112,108,101,46,111,114,103]:Bs)]:List Bs).getD r17.1.toNat ([]:Bs))
 some ((2,x19,([]:List Yq0)),r17.2))
 else(bif (r4.1==2)then(Ad (Ap N r4.2 4) fun r25 =>
 chk (decide (0≤r25.1)) <|
 chk (decide (r25.1<4)) <|
 chk (decide (r25.1.toNat<4)) <|
 let x27:Bs:=(([([10,0,0,1]:Bs),([10,1,2,3]:Bs),([192,168,1,7]:Bs),([32,1,13,184,0,0,0,0,0,0,0,0,0,0,0,1]:Bs)]:List Bs).getD r25.1.toNat ([]:Bs))
 some ((7,x27,([]:List Yq0)),r25.2))
 else(Ad (Rx N r4.2) fun r30 =>
 some ((4,([]:Bs),r30.1),r30.2))))
abbrev Ade:Type:=Bs
def F7 (N:Nat) (p0:Int):Option Ade :=
 chk (decide (0≤p0.tmod 9)) <|
 chk (decide (p0.tmod 9<9)) <|
 chk (decide ((p0.tmod 9).toNat<9)) <|
 let x7:Bs:=(([([49,46,50,46,51,46,49]:Bs),([49,46,50,46,51,46,50]:Bs),([49,46,50,46,51,46,51]:Bs),([49,46,50,46,51,46,52]:Bs),([49,46,50,46,51,46,53]:Bs),([50,46,57,57,57,46,49]:Bs),([50,46,57,57,57,46,50]:Bs),([49,46,50,46,51]:Bs),([50,46,53,46,50,57,46,51,50,46,48]:Bs)]:List Bs).getD ((p0.tmod 9).toNat) ([]:Bs))
 some x7
abbrev AgG:Type:=List Bs×List Int×Int
def Rz (N:Nat) (p0:List Int×Int) (p1:Bool):Option AgG :=
 Ad (Ap N p0 3) fun r12 =>
 Ak (X:=Int×List Int×Int×List Bs) (Y:=(List Int×Int×List Bs)) (U4 fun t6a b0_0a b0_1a l1000000a k1 x2 =>
 bif decide (t6a>0)then(Ad (Ap N (b0_0a,b0_1a) 9) fun r19 =>
 Ad (F7 N r19.1) fun r20 =>
 CS (α :=Bs×List Int×Int×List Bs) (fun j3 =>
 bif p1 then(Ad (Ap N r19.2 5) fun r24 =>
 chk (decide (0≤r24.1)) <|
 chk (decide (r24.1<5)) <|
 chk (decide (r24.1.toNat<5)) <|
 let x26:Bs:=(([([49,46,51,46,54,46,49,46,53,46,53,46,55,46,51,46,49]:Bs),([49,46,51,46,54,46,49,46,53,46,53,46,55,46,51,46,50]:Bs),([49,46,51,46,54,46,49,46,53,46,53,46,55,46,51,46,51]:Bs),([49,46,51,46,54,46,49,46,53,46,53,46,55,46,51,46,52]:Bs),([50,46,53,46,50,57,46,51,55,46,48]:Bs)]:List Bs).getD r24.1.toNat ([]:Bs))
 j3 (x26,r24.2.1,r24.2.2,l1000000a))
 else(j3 (r20,r19.2.1,r19.2.2,l1000000a)))
 (U4 fun t7b b0_0b b0_1b l1004096b =>
 Ak (X:=Bool×Int×List Int×Int×List Bs) (Y:=(Bool×List Int×Int×List Bs)) (U5 fun t8c t29c b0_0c b0_1c l1008192c k4 x5 =>
 bif decide (t29c<(l1004096b.length:Int))then(chk (decide (0≤t29c)) <|
 chk (decide (t29c<(l1008192c.length:Int))) <|
 chk (decide (t29c.toNat<l1008192c.length)) <|
 chk (!t8c|| !!t8c) <|
 chk (!t8c|| !!t8c) <|
 chk (bif t8c then true else !t8c) <|
 chk (bif t8c then true else true) <|
 k4 (bif t8c then true else(t7b==(l1008192c.getD t29c.toNat ([]:Bs))),i64.wrap (t29c+1),b0_0c,b0_1c,l1008192c))
 else(x5 (t8c,b0_0c,b0_1c,l1008192c)))
 N (false,0,b0_0b,b0_1b,l1004096b) (U4 fun t8d b0_0d b0_1d l1012288d =>
 bif !t8d then(chk (decide ((l1012288d.length+1)*17≤140737488355328)) <|
 k1 (i64.wrap (t6a - 1),b0_0d,b0_1d,l1012288d++([t7b]:List Bs)))
 else(k1 (i64.wrap (t6a - 1),b0_0d,b0_1d,l1012288d)))))
 else(x2 (b0_0a,b0_1a,l1000000a)))
 N (i64.wrap ((1:Int)+r12.1),r12.2.1,r12.2.2,([]:List Bs)) (U3 fun b0_0e b0_1e l1016384e =>
 some (l1016384e,(b0_0e,b0_1e)))
abbrev zG:Type:=(List (Bs×Bs))×List Int×Int
def ND (N:Nat) (p0:List Int×Int):Option zG :=
 Ad (Ap N p0 3) fun r10 =>
 Ak (X:=Int×List Int×Int×List (Bs×Bs)) (Y:=(List Int×Int×List (Bs×Bs))) (U4 fun t4a b0_0a b0_1a l1000000a k1 x2 =>
 bif decide (t4a>0)then(Ad (Ap N (b0_0a,b0_1a) 9) fun r17 =>
 Ad (F7 N r17.1) fun r18 =>
 Ad (Ap N r17.2 9) fun r20 =>
 Ad (F7 N r20.1) fun r21 =>
 Ak (X:=Bool×Int×List Int×Int×Bs×Bs×List (Bs×Bs)) (Y:=(Bool×List Int×Int×Bs×Bs×List (Bs×Bs))) (U7 fun t6b t25b b0_0b b0_1b b34048_0b b34048_1b l1004096b k3 x4 =>
 bif decide (t25b<(l1000000a.length:Int))then(chk (decide (0≤t25b)) <|
 chk (decide (t25b<(l1004096b.length:Int))) <|
 chk (decide (t25b.toNat<l1004096b.length)) <|
 chk (!t6b|| !!t6b) <|
 chk (!t6b|| !!t6b) <|
 let x33:Bool:=((b34048_0b==((l1004096b.getD t25b.toNat (([]:Bs),([]:Bs))).1))&&((b34048_1b==((l1004096b.getD t25b.toNat (([]:Bs),([]:Bs))).2))&&true))
 chk (bif t6b then true else !t6b) <|
 chk (bif t6b then true else true) <|
 k3 (bif t6b then true else x33,i64.wrap (t25b+1),b0_0b,b0_1b,b34048_0b,b34048_1b,l1004096b))
 else(x4 (t6b,b0_0b,b0_1b,b34048_0b,b34048_1b,l1004096b)))
 N (false,0,r20.2.1,r20.2.2,r18,r21,l1000000a) (U6 fun t6c b0_0c b0_1c b34048_0c b34048_1c l1008192c =>
 bif !t6c then(chk (decide ((l1008192c.length+1)*33≤140737488355328)) <|
 k1 (i64.wrap (t4a - 1),b0_0c,b0_1c,l1008192c++([(b34048_0c,b34048_1c)]:List (Bs×Bs))))
 else(k1 (i64.wrap (t4a - 1),b0_0c,b0_1c,l1008192c))))
 else(x2 (b0_0a,b0_1a,l1000000a)))
 N (i64.wrap ((1:Int)+r10.1),r10.2.1,r10.2.2,([]:List (Bs×Bs))) (U3 fun b0_0d b0_1d l1012288d =>
 some (l1012288d,(b0_0d,b0_1d)))
abbrev Ag9:Type:=Yq1×List Int×Int
def KX (N:Nat) (p0:List Int×Int):Option Ag9 :=
 Ad (Ap N p0 4) fun r4 =>
 bif (r4.1==0)then(Ad (Ap N r4.2 7) fun r9 =>
 chk (decide (0≤r9.1)) <|
 chk (decide (r9.1<7)) <|
 chk (decide (r9.1.toNat<7)) <|
 let x11:Bs:=(([([97,110,110,64,101,120,97,109,112,108,101,46,111,114,103]:Bs),([101,120,97,109,112,108,101,46,111,114,103]:Bs),([46,101,120,97,109,112,108,101,46,111,114,103]:Bs),([69,88,65,77,80,76,69,46,111,114,103]:Bs),([46,111,114,103]:Bs),([111,114,103]:Bs),([109,97,105,108,46,101,120,97,109,112,108,101,46,111,114,103]:Bs)]:List Bs).getD r9.1.toNat ([]:Bs))
 some ((1,x11,([]:List Yq0)),r9.2))
 else(bif (r4.1==1)then(Ad (Ap N r4.2 7) fun r17 =>
 chk (decide (0≤r17.1)) <|
 chk (decide (r17.1<7)) <|
 chk (decide (r17.1.toNat<7)) <|
 let x19:Bs:=(([([101,120,97,109,112,108,101,46,111,114,103]:Bs),([119,119,119,46,101,120,97,109,112,108,101,46,111,114,103]:Bs),([]:Bs),([69,120,97,109,112,108,101,46,79,82,71]:Bs),([111,114,103]:Bs),([98]:Bs),([97,46,98]:Bs)]:List Bs).getD r17.1.toNat ([]:Bs))
 some ((2,x19,([]:List Yq0)),r17.2))
 else(bif (r4.1==2)then(Ad (Ap N r4.2 5) fun r25 =>
 chk (decide (0≤r25.1)) <|
 chk (decide (r25.1<5)) <|
 chk (decide (r25.1.toNat<5)) <|
 let x27:Bs:=(([([10,0,0,0,255,0,0,0]:Bs),([10,1,0,0,255,255,0,0]:Bs),([0,0,0,0,0,0,0,0]:Bs),([10,1,2,3,255,255,255,255]:Bs),([32,1,0,0,0,0,0,0,0,0,0,0,0,0,0,0,255,255,0,0,0,0,0,0,0,0,0,0,0,0,0,0]:Bs)]:List Bs).getD r25.1.toNat ([]:Bs))
 some ((7,x27,([]:List Yq0)),r25.2))
 else(Ad (Rx N r4.2) fun r30 =>
 some ((4,([]:Bs),r30.1),r30.2))))
abbrev zD:Type:=Yq6×List Int×Int
def NC (N:Nat) (p0:List Int×Int):Option zD :=
 Ad (Ap N p0 4) fun r8 =>
 Ak (X:=Int×List Int×Int×List Yq1) (Y:=(List Int×Int×List Yq1)) (U4 fun t4a b0_0a b0_1a l1000000a k1 x2 =>
 bif decide (t4a>0)then(Ad (KX N (b0_0a,b0_1a)) fun r16 =>
 chk (decide ((l1000000a.length+1)*49≤140737488355328)) <|
 k1 (i64.wrap (t4a - 1),r16.2.1,r16.2.2,l1000000a++([r16.1]:List Yq1)))
 else(x2 (b0_0a,b0_1a,l1000000a)))
 N (r8.1,r8.2.1,r8.2.2,([]:List Yq1)) (U3 fun b0_0b b0_1b l1004096b =>
 Ad (Ap N (b0_0b,b0_1b) 3) fun r21 =>
 Ak (X:=Int×List Int×Int×List Yq1×List Yq1) (Y:=(List Int×Int×List Yq1×List Yq1)) (U5 fun t5c b0_0c b0_1c l1004096c l1008192c k3 x4 =>
 bif decide (t5c>0)then(Ad (KX N (b0_0c,b0_1c)) fun r29 =>
 chk (decide ((l1008192c.length+1)*49≤140737488355328)) <|
 k3 (i64.wrap (t5c - 1),r29.2.1,r29.2.2,l1004096c,l1008192c++([r29.1]:List Yq1)))
 else(x4 (b0_0c,b0_1c,l1004096c,l1008192c)))
 N (r21.1,r21.2.1,r21.2.2,l1004096b,([]:List Yq1)) (U4 fun b0_0d b0_1d l1004096d l1012288d =>
 chk (((l1004096d.length:Int)==0)||(!((l1004096d.length:Int)==0))) <|
 chk (((l1004096d.length:Int)==0)||(!((l1004096d.length:Int)==0))) <|
 chk (((l1004096d.length:Int)==0)||(!((l1004096d.length:Int)==0))) <|
 chk (bif ((l1004096d.length:Int)==0)then((l1004096d.length:Int)==0)else true) <|
 chk (bif ((l1004096d.length:Int)==0)then true else true) <|
 let x42:Bool:=bif ((l1004096d.length:Int)==0)then((l1012288d.length:Int)==0)else false
 bif x42 then(Ad (KX N (b0_0d,b0_1d)) fun r46 =>
 chk (decide ((l1012288d.length+1)*49≤140737488355328)) <|
 some ((l1004096d,l1012288d++([r46.1]:List Yq1)),r46.2))
 else(some ((l1004096d,l1012288d),(b0_0d,b0_1d)))))
abbrev WV:Type:=Bs
def Ab2 (N:Nat) (F:Int→Option WV) (p0:Int):Option WV :=
 bif decide (p0<10)then(chk (List.all ([IntKind.u8.wrap (i64.wrap ((48:Int)+p0))]:List Int) isByte) <|
 let x9:Bs:=List.map byteOf ([IntKind.u8.wrap (i64.wrap ((48:Int)+p0))]:List Int)
 some x9)
 else(Ad (F (i64.wrap (p0.tdiv 10))) fun r12 =>
 chk (List.all ([IntKind.u8.wrap (i64.wrap ((48:Int)+(p0.tmod 10)))]:List Int) isByte) <|
 let x18:Bs:=List.map byteOf ([IntKind.u8.wrap (i64.wrap ((48:Int)+(p0.tmod 10)))]:List Int)
 chk (decide (r12.length+x18.length≤140737488355328)) <|
 some (r12++x18))
def VQ (N:Nat):Nat→Int→Option WV
  | 0=>fun p0=>none
  | n+1=>fun p0=>Ab2 N (VQ N n) p0
abbrev uP:Type:=List Yq0
def IX (N:Nat) (p0:Int):Option uP :=
 Ad (VQ N N (i64.wrap ((p0.tmod 8).tdiv 2))) fun r8 =>
 chk (decide (3+r8.length≤140737488355328)) <|
 CS (α :=Bs) (fun j1 =>
 bif decide ((p0.tmod 16)≥8)then(Ad (VQ N N (i64.wrap ((p0.tmod 8).tdiv 2))) fun r16 =>
 chk (decide (5+r16.length≤140737488355328)) <|
 j1 (([32,99,97,32,32]:Bs)++r16))
 else(j1 (([67,65,32]:Bs)++r8)))
 (fun t3a =>
 bif ((p0.tmod 2)==1)then(some ([([(([50,46,53,46,52,46,49,48]:Bs),19,t3a)]:List (Bs×Int×Bs)),([(([50,46,53,46,52,46,49,49]:Bs),12,([85,110,105,116]:Bs))]:List (Bs×Int×Bs))]:List Yq0))
 else(some ([([(([50,46,53,46,52,46,49,48]:Bs),19,t3a)]:List (Bs×Int×Bs))]:List Yq0)))
abbrev Adg:Type:=List Yq2×List Int×Int
def Nh (N:Nat) (p0:List Int×Int):Option Adg :=
 Ad (Ap N p0 3) fun r7 =>
 Ak (X:=Int×List Int×Int×List Yq2) (Y:=(List Int×Int×List Yq2)) (U4 fun t4a b0_0a b0_1a l1000000a k1 x2 =>
 bif decide (t4a>0)then(Ad (GL N (b0_0a,b0_1a)) fun r14 =>
 Ad (Ap N r14.2 6) fun r18 =>
 chk (decide (0≤r18.1)) <|
 chk (decide (r18.1<6)) <|
 chk (decide (r18.1.toNat<6)) <|
 CS (α :=List Int×Int×Int×Bool×List Yq0×List Yq1×List Yq2) (fun j3 =>
 Ad (Ap N r18.2 3) fun r23 =>
 bif (r23.1==2)then(Ad (Ap N r23.2 16) fun r26 =>
 Ad (IX N r26.1) fun r27 =>
 j3 (r26.2.1,r26.2.2,(([0,0,510,2,64,384]:List Int).getD r18.1.toNat 0),true,r27,([r14.1]:List Yq1),l1000000a))
 else(j3 (r23.2.1,r23.2.2,(([0,0,510,2,64,384]:List Int).getD r18.1.toNat 0),false,([]:List Yq0),([r14.1]:List Yq1),l1000000a)))
 (U7 fun b0_0b b0_1b b34048_1b b34048_2b b34048_3b l36608b l1004096b =>
 chk (decide ((l1004096b.length+1)*65≤140737488355328)) <|
 k1 (i64.wrap (t4a - 1),b0_0b,b0_1b,l1004096b++([(l36608b,b34048_1b,b34048_2b,b34048_3b)]:List Yq2))))
 else(x2 (b0_0a,b0_1a,l1000000a)))
 N (i64.wrap ((1:Int)+r7.1),r7.2.1,r7.2.2,([]:List Yq2)) (U3 fun b0_0c b0_1c l1008192c =>
 some (l1008192c,(b0_0c,b0_1c)))
abbrev AgC:Type:=Yq4×List Int×Int
def VI (N:Nat) (p0:List Int×Int):Option AgC :=
 Ad (ZF N) fun r5 =>
 Ad (Ap N p0 6) fun r7 =>
 Ak (X:=Int×List Int×Int×Bool×Bool×Int×Int×Int×Int×Int×Bool×List Yq1×List Yq1×Bs×Bs×List Yq2×List Bs×List Bs×(List (Bs×Bs))×List Yq1×List Yq2×List (Bs×Bool×Bs)) (Y:=(List Int×Int×Bool×Bool×Int×Int×Int×Int×Int×Bool×List Yq1×List Yq1×Bs×Bs×List Yq2×(List (Bs×Bool×Bs))×List Yq2×List Yq1×(List (Bs×Bs))×List Bs×List Bs)) (U22 fun t4a b0_0a b0_1a b33536_0a b33536_1a b33536_2a b33536_3a b33536_7a b33536_8a b33536_9a b33536_11a b33536_12a b33536_13a b33536_14a b33536_15a b33536_17a l1000000a l1000016a l1000032a l1000048a l1000064a l1000080a k1 x2 =>
 bif decide (t4a>0)then(Ad (Ap N (b0_0a,b0_1a) 14) fun r13 =>
 CS (α :=Bool×List Int×Int×Bool×Bool×Int×Int×Int×Int×Int×Bool×List Yq1×List Yq1×Bs×Bs×List Yq2×(List (Bs×Bool×Bs))×List Yq2×List Yq1×(List (Bs×Bs))×List Bs×List Bs) (fun j3 =>
 bif (r13.1==0)then(j3 ((r13.1==0),r13.2.1,r13.2.2,b33536_0a,b33536_1a,b33536_2a,b33536_3a,b33536_7a,b33536_8a,b33536_9a,b33536_11a,b33536_12a,b33536_13a,b33536_14a,b33536_15a,b33536_17a,l1000080a,l1000064a,l1000048a,l1000032a,l1000016a,l1000000a))
 else(j3 ((r13.1==1),r13.2.1,r13.2.2,b33536_0a,b33536_1a,b33536_2a,b33536_3a,b33536_7a,b33536_8a,b33536_9a,b33536_11a,b33536_12a,b33536_13a,b33536_14a,b33536_15a,b33536_17a,l1000080a,l1000064a,l1000048a,l1000032a,l1000016a,l1000000a)))
 (U22 fun t27b b0_0b b0_1b b33536_0b b33536_1b b33536_2b b33536_3b b33536_7b b33536_8b b33536_9b b33536_11b b33536_12b b33536_13b b33536_14b b33536_15b b33536_17b l1004096b l1004112b l1004128b l1004144b l1004160b l1004176b =>
 bif t27b then(Ad (Ap N (b0_0b,b0_1b) 5) fun r31 =>
 k1 (i64.wrap (t4a - 1),r31.2.1,r31.2.2,true,true,i64.wrap (r31.1 - 1),b33536_3b,b33536_7b,b33536_8b,b33536_9b,b33536_11b,b33536_12b,b33536_13b,b33536_14b,b33536_15b,b33536_17b,l1004176b,l1004160b,l1004144b,l1004128b,l1004112b,l1004096b))
 else(bif (r13.1==2)then(k1 (i64.wrap (t4a - 1),b0_0b,b0_1b,true,false,(-1),b33536_3b,b33536_7b,b33536_8b,b33536_9b,b33536_11b,b33536_12b,b33536_13b,b33536_14b,b33536_15b,b33536_17b,l1004176b,l1004160b,l1004144b,l1004128b,l1004112b,l1004096b))
 else(bif (r13.1==3)then(Ad (Ap N (b0_0b,b0_1b) 511) fun r44 =>
 k1 (i64.wrap (t4a - 1),r44.2.1,r44.2.2,b33536_0b,b33536_1b,b33536_2b,i64.wrap ((1:Int)+r44.1),b33536_7b,b33536_8b,b33536_9b,b33536_11b,b33536_12b,b33536_13b,b33536_14b,b33536_15b,b33536_17b,l1004176b,l1004160b,l1004144b,l1004128b,l1004112b,l1004096b))
 else(bif (r13.1==4)then(Ad (Rz N (b0_0b,b0_1b) true) fun r50 =>
 k1 (i64.wrap (t4a - 1),r50.2.1,r50.2.2,b33536_0b,b33536_1b,b33536_2b,b33536_3b,b33536_7b,b33536_8b,b33536_9b,b33536_11b,b33536_12b,b33536_13b,b33536_14b,b33536_15b,b33536_17b,r50.1,l1004160b,l1004144b,l1004128b,l1004112b,l1004096b))
 else(bif (r13.1==5)then(Ad (Rz N (b0_0b,b0_1b) false) fun r55 =>
 k1 (i64.wrap (t4a - 1),r55.2.1,r55.2.2,b33536_0b,b33536_1b,b33536_2b,b33536_3b,b33536_7b,b33536_8b,b33536_9b,b33536_11b,b33536_12b,b33536_13b,b33536_14b,b33536_15b,b33536_17b,l1004176b,r55.1,l1004144b,l1004128b,l1004112b,l1004096b))
 else(bif (r13.1==6)then(Ad (ND N (b0_0b,b0_1b)) fun r60 =>
 k1 (i64.wrap (t4a - 1),r60.2.1,r60.2.2,b33536_0b,b33536_1b,b33536_2b,b33536_3b,b33536_7b,b33536_8b,b33536_9b,b33536_11b,b33536_12b,b33536_13b,b33536_14b,b33536_15b,b33536_17b,l1004176b,l1004160b,r60.1,l1004128b,l1004112b,l1004096b))
 else(bif (r13.1==7)then(Ad (Ap N (b0_0b,b0_1b) 5) fun r65 =>
 Ad (Ap N r65.2 5) fun r68 =>
 k1 (i64.wrap (t4a - 1),r68.2.1,r68.2.2,b33536_0b,b33536_1b,b33536_2b,b33536_3b,i64.wrap (r65.1 - 1),i64.wrap (r68.1 - 1),b33536_9b,b33536_11b,b33536_12b,b33536_13b,b33536_14b,b33536_15b,b33536_17b,l1004176b,l1004160b,l1004144b,l1004128b,l1004112b,l1004096b))
 else(bif (r13.1==8)then(Ad (Ap N (b0_0b,b0_1b) 65) fun r75 =>
 k1 (i64.wrap (t4a - 1),r75.2.1,r75.2.2,b33536_0b,b33536_1b,b33536_2b,b33536_3b,b33536_7b,b33536_8b,r75.1,b33536_11b,b33536_12b,b33536_13b,b33536_14b,b33536_15b,b33536_17b,l1004176b,l1004160b,l1004144b,l1004128b,l1004112b,l1004096b))
 else(bif (r13.1==9)then(Ad (GL N (b0_0b,b0_1b)) fun r80 =>
 Ad (GL N r80.2) fun r82 =>
 Ad (Ap N r82.2 2) fun r85 =>
 chk (decide (0≤i64.wrap ((1:Int)+r85.1))) <|
 chk (decide (i64.wrap ((1:Int)+r85.1)≤2)) <|
 let y55040:List Yq1:=AO ([r80.1,r82.1]:List Yq1) 0 ((i64.wrap ((1:Int)+r85.1)).toNat)
 k1 (i64.wrap (t4a - 1),r85.2.1,r85.2.2,b33536_0b,b33536_1b,b33536_2b,b33536_3b,b33536_7b,b33536_8b,b33536_9b,b33536_11b,b33536_12b,b33536_13b,b33536_14b,b33536_15b,b33536_17b,l1004176b,l1004160b,l1004144b,y55040,l1004112b,l1004096b))
 else(bif (r13.1==10)then(Ad (NC N (b0_0b,b0_1b)) fun r92 =>
 k1 (i64.wrap (t4a - 1),r92.2.1,r92.2.2,b33536_0b,b33536_1b,b33536_2b,b33536_3b,b33536_7b,b33536_8b,b33536_9b,true,r92.1.1,r92.1.2,b33536_14b,b33536_15b,b33536_17b,l1004176b,l1004160b,l1004144b,l1004128b,l1004112b,l1004096b))
 else(bif (r13.1==11)then(Ad (Ap N (b0_0b,b0_1b) 3) fun r99 =>
 chk (decide (0≤r99.1)) <|
 chk (decide (r99.1<3)) <|
 chk (decide (r99.1.toNat<3)) <|
 let x101:Bs:=(([([]:Bs),([48,49,50,51,52,53,54,55,56,57,97,98,99,100,101,102]:Bs),([120]:Bs)]:List Bs).getD r99.1.toNat ([]:Bs))
 Ad (Ap N r99.2 2) fun r104 =>
 chk (decide (0≤r104.1)) <|
 chk (decide (r104.1<2)) <|
 chk (decide (r104.1.toNat<2)) <|
 let x106:Bs:=(([([]:Bs),([102,101,100,99,98,97,57,56,55,54,53,52,51,50,49,48]:Bs)]:List Bs).getD r104.1.toNat ([]:Bs))
 k1 (i64.wrap (t4a - 1),r104.2.1,r104.2.2,b33536_0b,b33536_1b,b33536_2b,b33536_3b,b33536_7b,b33536_8b,b33536_9b,b33536_11b,b33536_12b,b33536_13b,x101,x106,b33536_17b,l1004176b,l1004160b,l1004144b,l1004128b,l1004112b,l1004096b))
 else(bif (r13.1==12)then(Ad (Nh N (b0_0b,b0_1b)) fun r112 =>
 k1 (i64.wrap (t4a - 1),r112.2.1,r112.2.2,b33536_0b,b33536_1b,b33536_2b,b33536_3b,b33536_7b,b33536_8b,b33536_9b,b33536_11b,b33536_12b,b33536_13b,b33536_14b,b33536_15b,b33536_17b,l1004176b,l1004160b,l1004144b,l1004128b,r112.1,l1004096b))
 else(Ad (Nh N (b0_0b,b0_1b)) fun r15 =>
 Ad (Ap N r15.2 2) fun r18 =>
 Ad (Ap N r18.2 3) fun r24 =>
 chk (decide (0≤r24.1)) <|
 chk (decide (r24.1≤2)) <|
 let y39168:List (Bs×Bool×Bs):=AO ([(([49,46,50,46,51,46,52,46,53]:Bs),(r18.1==1),([5,0]:Bs)),(([49,46,50,46,51,46,52,46,54]:Bs),false,([48,3,2,1,7]:Bs))]:List (Bs×Bool×Bs)) 0 r24.1.toNat
 k1 (i64.wrap (t4a - 1),r24.2.1,r24.2.2,b33536_0b,b33536_1b,b33536_2b,b33536_3b,b33536_7b,b33536_8b,b33536_9b,b33536_11b,b33536_12b,b33536_13b,b33536_14b,b33536_15b,r15.1,l1004176b,l1004160b,l1004144b,l1004128b,l1004112b,y39168)))))))))))))))
 else(x2 (b0_0a,b0_1a,b33536_0a,b33536_1a,b33536_2a,b33536_3a,b33536_7a,b33536_8a,b33536_9a,b33536_11a,b33536_12a,b33536_13a,b33536_14a,b33536_15a,b33536_17a,l1000080a,l1000064a,l1000048a,l1000032a,l1000016a,l1000000a)))
 N (r7.1,r7.2.1,r7.2.2,r5.1,r5.2.1,r5.2.2.1,r5.2.2.2.1,r5.2.2.2.2.2.2.2.1,r5.2.2.2.2.2.2.2.2.1,r5.2.2.2.2.2.2.2.2.2.1,r5.2.2.2.2.2.2.2.2.2.2.2.1,r5.2.2.2.2.2.2.2.2.2.2.2.2.1,r5.2.2.2.2.2.2.2.2.2.2.2.2.2.1,r5.2.2.2.2.2.2.2.2.2.2.2.2.2.2.1,r5.2.2.2.2.2.2.2.2.2.2.2.2.2.2.2.1,r5.2.2.2.2.2.2.2.2.2.2.2.2.2.2.2.2.2.1,r5.2.2.2.2.1,r5.2.2.2.2.2.1,r5.2.2.2.2.2.2.1,r5.2.2.2.2.2.2.2.2.2.2.1,r5.2.2.2.2.2.2.2.2.2.2.2.2.2.2.2.2.1,r5.2.2.2.2.2.2.2.2.2.2.2.2.2.2.2.2.2.2) (U21 fun b0_0c b0_1c b33536_0c b33536_1c b33536_2c b33536_3c b33536_7c b33536_8c b33536_9c b33536_11c b33536_12c b33536_13c b33536_14c b33536_15c b33536_17c l1008192c l1008208c l1008224c l1008240c l1008256c l1008272c =>
 some ((b33536_0c,b33536_1c,b33536_2c,b33536_3c,l1008272c,l1008256c,l1008240c,b33536_7c,b33536_8c,b33536_9c,l1008224c,b33536_11c,b33536_12c,b33536_13c,b33536_14c,b33536_15c,l1008208c,b33536_17c,l1008192c),(b0_0c,b0_1c)))
abbrev yX:Type:=Yq4×List Int×Int
def N8 (N:Nat) (p0:List Int×Int) (p1:Yq4):Option yX :=
 Ad (VI N p0) fun r8 =>
 Ad (Ap N r8.2 18) fun r10 =>
 bif (r10.1==0)then(some ((r8.1.1,!r8.1.2.1,r8.1.2.2.1,r8.1.2.2.2.1,r8.1.2.2.2.2.1,r8.1.2.2.2.2.2.1,r8.1.2.2.2.2.2.2.1,r8.1.2.2.2.2.2.2.2.1,r8.1.2.2.2.2.2.2.2.2.1,r8.1.2.2.2.2.2.2.2.2.2.1,r8.1.2.2.2.2.2.2.2.2.2.2.1,r8.1.2.2.2.2.2.2.2.2.2.2.2.1,r8.1.2.2.2.2.2.2.2.2.2.2.2.2.1,r8.1.2.2.2.2.2.2.2.2.2.2.2.2.2.1,r8.1.2.2.2.2.2.2.2.2.2.2.2.2.2.2.1,r8.1.2.2.2.2.2.2.2.2.2.2.2.2.2.2.2.1,r8.1.2.2.2.2.2.2.2.2.2.2.2.2.2.2.2.2.1,r8.1.2.2.2.2.2.2.2.2.2.2.2.2.2.2.2.2.2.1,r8.1.2.2.2.2.2.2.2.2.2.2.2.2.2.2.2.2.2.2),r10.2))
 else(bif (r10.1==1)then(Ad (Ap N r10.2 70) fun r20 =>
 some ((r8.1.1,r8.1.2.1,i64.wrap (r20.1 - 3),r8.1.2.2.2.1,r8.1.2.2.2.2.1,r8.1.2.2.2.2.2.1,r8.1.2.2.2.2.2.2.1,r8.1.2.2.2.2.2.2.2.1,r8.1.2.2.2.2.2.2.2.2.1,r8.1.2.2.2.2.2.2.2.2.2.1,r8.1.2.2.2.2.2.2.2.2.2.2.1,r8.1.2.2.2.2.2.2.2.2.2.2.2.1,r8.1.2.2.2.2.2.2.2.2.2.2.2.2.1,r8.1.2.2.2.2.2.2.2.2.2.2.2.2.2.1,r8.1.2.2.2.2.2.2.2.2.2.2.2.2.2.2.1,r8.1.2.2.2.2.2.2.2.2.2.2.2.2.2.2.2.1,r8.1.2.2.2.2.2.2.2.2.2.2.2.2.2.2.2.2.1,r8.1.2.2.2.2.2.2.2.2.2.2.2.2.2.2.2.2.2.1,r8.1.2.2.2.2.2.2.2.2.2.2.2.2.2.2.2.2.2.2),r20.2))
 else(bif (r10.1==2)then(Ad (Ap N r10.2 600) fun r26 =>
 some ((r8.1.1,r8.1.2.1,r8.1.2.2.1,i64.wrap (r26.1 - 5),r8.1.2.2.2.2.1,r8.1.2.2.2.2.2.1,r8.1.2.2.2.2.2.2.1,r8.1.2.2.2.2.2.2.2.1,r8.1.2.2.2.2.2.2.2.2.1,r8.1.2.2.2.2.2.2.2.2.2.1,r8.1.2.2.2.2.2.2.2.2.2.2.1,r8.1.2.2.2.2.2.2.2.2.2.2.2.1,r8.1.2.2.2.2.2.2.2.2.2.2.2.2.1,r8.1.2.2.2.2.2.2.2.2.2.2.2.2.2.1,r8.1.2.2.2.2.2.2.2.2.2.2.2.2.2.2.1,r8.1.2.2.2.2.2.2.2.2.2.2.2.2.2.2.2.1,r8.1.2.2.2.2.2.2.2.2.2.2.2.2.2.2.2.2.1,r8.1.2.2.2.2.2.2.2.2.2.2.2.2.2.2.2.2.2.1,r8.1.2.2.2.2.2.2.2.2.2.2.2.2.2.2.2.2.2.2),r26.2))
 else(bif (r10.1==3)then(chk (decide ((r8.1.2.2.2.2.1.length+1)*17≤140737488355328)) <|
 let y41472:List Bs:=r8.1.2.2.2.2.1++([([49,46,51,46,54,46,49,46,53,46,53,46,55,46,51,46,49]:Bs)]:List Bs)
 some ((r8.1.1,r8.1.2.1,r8.1.2.2.1,r8.1.2.2.2.1,y41472,r8.1.2.2.2.2.2.1,r8.1.2.2.2.2.2.2.1,r8.1.2.2.2.2.2.2.2.1,r8.1.2.2.2.2.2.2.2.2.1,r8.1.2.2.2.2.2.2.2.2.2.1,r8.1.2.2.2.2.2.2.2.2.2.2.1,r8.1.2.2.2.2.2.2.2.2.2.2.2.1,r8.1.2.2.2.2.2.2.2.2.2.2.2.2.1,r8.1.2.2.2.2.2.2.2.2.2.2.2.2.2.1,r8.1.2.2.2.2.2.2.2.2.2.2.2.2.2.2.1,r8.1.2.2.2.2.2.2.2.2.2.2.2.2.2.2.2.1,r8.1.2.2.2.2.2.2.2.2.2.2.2.2.2.2.2.2.1,r8.1.2.2.2.2.2.2.2.2.2.2.2.2.2.2.2.2.2.1,r8.1.2.2.2.2.2.2.2.2.2.2.2.2.2.2.2.2.2.2),r10.2))
 else(bif (r10.1==4)then(Ad (Ap N r10.2 9) fun r41 =>
 Ad (F7 N r41.1) fun r42 =>
 chk (decide ((r8.1.2.2.2.2.2.1.length+1)*17≤140737488355328)) <|
 some ((r8.1.1,r8.1.2.1,r8.1.2.2.1,r8.1.2.2.2.1,r8.1.2.2.2.2.1,r8.1.2.2.2.2.2.1++([r42]:List Bs),r8.1.2.2.2.2.2.2.1,r8.1.2.2.2.2.2.2.2.1,r8.1.2.2.2.2.2.2.2.2.1,r8.1.2.2.2.2.2.2.2.2.2.1,r8.1.2.2.2.2.2.2.2.2.2.2.1,r8.1.2.2.2.2.2.2.2.2.2.2.2.1,r8.1.2.2.2.2.2.2.2.2.2.2.2.2.1,r8.1.2.2.2.2.2.2.2.2.2.2.2.2.2.1,r8.1.2.2.2.2.2.2.2.2.2.2.2.2.2.2.1,r8.1.2.2.2.2.2.2.2.2.2.2.2.2.2.2.2.1,r8.1.2.2.2.2.2.2.2.2.2.2.2.2.2.2.2.2.1,r8.1.2.2.2.2.2.2.2.2.2.2.2.2.2.2.2.2.2.1,r8.1.2.2.2.2.2.2.2.2.2.2.2.2.2.2.2.2.2.2),r41.2))
 else(bif (r10.1==5)then(Ad (F7 N 0) fun r50 =>
 Ad (Ap N r10.2 9) fun r52 =>
 Ad (F7 N r52.1) fun r53 =>
 chk (decide ((r8.1.2.2.2.2.2.2.1.length+1)*33≤140737488355328)) <|
 some ((r8.1.1,r8.1.2.1,r8.1.2.2.1,r8.1.2.2.2.1,r8.1.2.2.2.2.1,r8.1.2.2.2.2.2.1,r8.1.2.2.2.2.2.2.1++([(r50,r53)]:List (Bs×Bs)),r8.1.2.2.2.2.2.2.2.1,r8.1.2.2.2.2.2.2.2.2.1,r8.1.2.2.2.2.2.2.2.2.2.1,r8.1.2.2.2.2.2.2.2.2.2.2.1,r8.1.2.2.2.2.2.2.2.2.2.2.2.1,r8.1.2.2.2.2.2.2.2.2.2.2.2.2.1,r8.1.2.2.2.2.2.2.2.2.2.2.2.2.2.1,r8.1.2.2.2.2.2.2.2.2.2.2.2.2.2.2.1,r8.1.2.2.2.2.2.2.2.2.2.2.2.2.2.2.2.1,r8.1.2.2.2.2.2.2.2.2.2.2.2.2.2.2.2.2.1,r8.1.2.2.2.2.2.2.2.2.2.2.2.2.2.2.2.2.2.1,r8.1.2.2.2.2.2.2.2.2.2.2.2.2.2.2.2.2.2.2),r52.2))
 else(bif (r10.1==6)then(Ad (Ap N r10.2 70) fun r61 =>
 some ((r8.1.1,r8.1.2.1,r8.1.2.2.1,r8.1.2.2.2.1,r8.1.2.2.2.2.1,r8.1.2.2.2.2.2.1,r8.1.2.2.2.2.2.2.1,i64.wrap (r61.1 - 3),r8.1.2.2.2.2.2.2.2.2.1,r8.1.2.2.2.2.2.2.2.2.2.1,r8.1.2.2.2.2.2.2.2.2.2.2.1,r8.1.2.2.2.2.2.2.2.2.2.2.2.1,r8.1.2.2.2.2.2.2.2.2.2.2.2.2.1,r8.1.2.2.2.2.2.2.2.2.2.2.2.2.2.1,r8.1.2.2.2.2.2.2.2.2.2.2.2.2.2.2.1,r8.1.2.2.2.2.2.2.2.2.2.2.2.2.2.2.2.1,r8.1.2.2.2.2.2.2.2.2.2.2.2.2.2.2.2.2.1,r8.1.2.2.2.2.2.2.2.2.2.2.2.2.2.2.2.2.2.1,r8.1.2.2.2.2.2.2.2.2.2.2.2.2.2.2.2.2.2.2),r61.2))
 else(bif (r10.1==7)then(Ad (Ap N r10.2 70) fun r67 =>
 Ad (Ap N r67.2 70) fun r70 =>
 some ((r8.1.1,r8.1.2.1,r8.1.2.2.1,r8.1.2.2.2.1,r8.1.2.2.2.2.1,r8.1.2.2.2.2.2.1,r8.1.2.2.2.2.2.2.1,r8.1.2.2.2.2.2.2.2.1,i64.wrap (r67.1 - 3),i64.wrap (r70.1 - 3),r8.1.2.2.2.2.2.2.2.2.2.2.1,r8.1.2.2.2.2.2.2.2.2.2.2.2.1,r8.1.2.2.2.2.2.2.2.2.2.2.2.2.1,r8.1.2.2.2.2.2.2.2.2.2.2.2.2.2.1,r8.1.2.2.2.2.2.2.2.2.2.2.2.2.2.2.1,r8.1.2.2.2.2.2.2.2.2.2.2.2.2.2.2.2.1,r8.1.2.2.2.2.2.2.2.2.2.2.2.2.2.2.2.2.1,r8.1.2.2.2.2.2.2.2.2.2.2.2.2.2.2.2.2.2.1,r8.1.2.2.2.2.2.2.2.2.2.2.2.2.2.2.2.2.2.2),r70.2))
 else(bif (r10.1==8)then(some ((r8.1.1,r8.1.2.1,r8.1.2.2.1,r8.1.2.2.2.1,r8.1.2.2.2.2.1,r8.1.2.2.2.2.2.1,r8.1.2.2.2.2.2.2.1,r8.1.2.2.2.2.2.2.2.1,r8.1.2.2.2.2.2.2.2.2.1,r8.1.2.2.2.2.2.2.2.2.2.1,r8.1.2.2.2.2.2.2.2.2.2.2.1,!r8.1.2.2.2.2.2.2.2.2.2.2.2.1,r8.1.2.2.2.2.2.2.2.2.2.2.2.2.1,r8.1.2.2.2.2.2.2.2.2.2.2.2.2.2.1,r8.1.2.2.2.2.2.2.2.2.2.2.2.2.2.2.1,r8.1.2.2.2.2.2.2.2.2.2.2.2.2.2.2.2.1,r8.1.2.2.2.2.2.2.2.2.2.2.2.2.2.2.2.2.1,r8.1.2.2.2.2.2.2.2.2.2.2.2.2.2.2.2.2.2.1,r8.1.2.2.2.2.2.2.2.2.2.2.2.2.2.2.2.2.2.2),r10.2))
 else(bif (r10.1==9)then(Ad (KX N r10.2) fun r85 =>
 chk (decide ((r8.1.2.2.2.2.2.2.2.2.2.2.1.length+1)*49≤140737488355328)) <|
 some ((r8.1.1,r8.1.2.1,r8.1.2.2.1,r8.1.2.2.2.1,r8.1.2.2.2.2.1,r8.1.2.2.2.2.2.1,r8.1.2.2.2.2.2.2.1,r8.1.2.2.2.2.2.2.2.1,r8.1.2.2.2.2.2.2.2.2.1,r8.1.2.2.2.2.2.2.2.2.2.1,r8.1.2.2.2.2.2.2.2.2.2.2.1++([r85.1]:List Yq1),r8.1.2.2.2.2.2.2.2.2.2.2.2.1,r8.1.2.2.2.2.2.2.2.2.2.2.2.2.1,r8.1.2.2.2.2.2.2.2.2.2.2.2.2.2.1,r8.1.2.2.2.2.2.2.2.2.2.2.2.2.2.2.1,r8.1.2.2.2.2.2.2.2.2.2.2.2.2.2.2.2.1,r8.1.2.2.2.2.2.2.2.2.2.2.2.2.2.2.2.2.1,r8.1.2.2.2.2.2.2.2.2.2.2.2.2.2.2.2.2.2.1,r8.1.2.2.2.2.2.2.2.2.2.2.2.2.2.2.2.2.2.2),r85.2))
 else(bif (r10.1==10)then(chk (decide ((r8.1.2.2.2.2.2.2.2.2.2.2.2.2.2.2.2.2.1.length+p1.2.2.2.2.2.2.2.2.2.2.2.2.2.2.2.2.1.length)*65≤140737488355328)) <|
 let y57088:List Yq2:=r8.1.2.2.2.2.2.2.2.2.2.2.2.2.2.2.2.2.1++p1.2.2.2.2.2.2.2.2.2.2.2.2.2.2.2.2.1
 some ((r8.1.1,r8.1.2.1,r8.1.2.2.1,r8.1.2.2.2.1,r8.1.2.2.2.2.1,r8.1.2.2.2.2.2.1,r8.1.2.2.2.2.2.2.1,r8.1.2.2.2.2.2.2.2.1,r8.1.2.2.2.2.2.2.2.2.1,r8.1.2.2.2.2.2.2.2.2.2.1,r8.1.2.2.2.2.2.2.2.2.2.2.1,r8.1.2.2.2.2.2.2.2.2.2.2.2.1,r8.1.2.2.2.2.2.2.2.2.2.2.2.2.1,r8.1.2.2.2.2.2.2.2.2.2.2.2.2.2.1,r8.1.2.2.2.2.2.2.2.2.2.2.2.2.2.2.1,r8.1.2.2.2.2.2.2.2.2.2.2.2.2.2.2.2.1,y57088,r8.1.2.2.2.2.2.2.2.2.2.2.2.2.2.2.2.2.2.1,r8.1.2.2.2.2.2.2.2.2.2.2.2.2.2.2.2.2.2.2),r10.2))
 else(bif (r10.1==11)then(chk (decide ((r8.1.2.2.2.2.2.2.2.2.2.2.2.2.2.2.2.2.2.2.length+p1.2.2.2.2.2.2.2.2.2.2.2.2.2.2.2.2.2.2.length)*41≤140737488355328)) <|
 let y59136:List (Bs×Bool×Bs):=r8.1.2.2.2.2.2.2.2.2.2.2.2.2.2.2.2.2.2.2++p1.2.2.2.2.2.2.2.2.2.2.2.2.2.2.2.2.2.2
 some ((r8.1.1,r8.1.2.1,r8.1.2.2.1,r8.1.2.2.2.1,r8.1.2.2.2.2.1,r8.1.2.2.2.2.2.1,r8.1.2.2.2.2.2.2.1,r8.1.2.2.2.2.2.2.2.1,r8.1.2.2.2.2.2.2.2.2.1,r8.1.2.2.2.2.2.2.2.2.2.1,r8.1.2.2.2.2.2.2.2.2.2.2.1,r8.1.2.2.2.2.2.2.2.2.2.2.2.1,r8.1.2.2.2.2.2.2.2.2.2.2.2.2.1,r8.1.2.2.2.2.2.2.2.2.2.2.2.2.2.1,r8.1.2.2.2.2.2.2.2.2.2.2.2.2.2.2.1,r8.1.2.2.2.2.2.2.2.2.2.2.2.2.2.2.2.1,r8.1.2.2.2.2.2.2.2.2.2.2.2.2.2.2.2.2.1,r8.1.2.2.2.2.2.2.2.2.2.2.2.2.2.2.2.2.2.1,y59136),r10.2))
 else(bif (r10.1==12)then(chk (decide ((r8.1.2.2.2.2.2.2.2.2.2.2.2.2.2.2.2.2.2.2.length+1)*41≤140737488355328)) <|
 let y61184:List (Bs×Bool×Bs):=r8.1.2.2.2.2.2.2.2.2.2.2.2.2.2.2.2.2.2.2++([(([50,46,53,46,50,57,46,49,57]:Bs),false,([5,0]:Bs))]:List (Bs×Bool×Bs))
 some ((r8.1.1,r8.1.2.1,r8.1.2.2.1,r8.1.2.2.2.1,r8.1.2.2.2.2.1,r8.1.2.2.2.2.2.1,r8.1.2.2.2.2.2.2.1,r8.1.2.2.2.2.2.2.2.1,r8.1.2.2.2.2.2.2.2.2.1,r8.1.2.2.2.2.2.2.2.2.2.1,r8.1.2.2.2.2.2.2.2.2.2.2.1,r8.1.2.2.2.2.2.2.2.2.2.2.2.1,r8.1.2.2.2.2.2.2.2.2.2.2.2.2.1,r8.1.2.2.2.2.2.2.2.2.2.2.2.2.2.1,r8.1.2.2.2.2.2.2.2.2.2.2.2.2.2.2.1,r8.1.2.2.2.2.2.2.2.2.2.2.2.2.2.2.2.1,r8.1.2.2.2.2.2.2.2.2.2.2.2.2.2.2.2.2.1,r8.1.2.2.2.2.2.2.2.2.2.2.2.2.2.2.2.2.2.1,y61184),r10.2))
 else(bif (r10.1==13)then(Ak (X:=Int×List Int×Int×Bool×Bool×Int×Int×Int×Int×Int×Bool×List Yq1×List Yq1×Bs×Bs×List Yq2×List Bs×List Bs×(List (Bs×Bs))×List Yq1×List Yq2×List (Bs×Bool×Bs)) (Y:=(List Int×Int×Bool×Bool×Int×Int×Int×Int×Int×Bool×List Yq1×List Yq1×Bs×Bs×List Yq2×List Bs×List Bs×(List (Bs×Bs))×List Yq1×List Yq2×List (Bs×Bool×Bs))) (U22 fun t6a b0_0a b0_1a b34048_0a b34048_1a b34048_2a b34048_3a b34048_7a b34048_8a b34048_9a b34048_11a b34048_12a b34048_13a b34048_14a b34048_15a b34048_17a l34821a l34822a l34823a l34827a l34833a l1000000a k1 x2 =>
 Ad (Ap N (b0_0a,b0_1a) 10) fun r117 =>
 bif decide (t6a<(i64.wrap ((16:Int)+r117.1)))then(chk (List.all ([IntKind.u8.wrap ((49:Int)+(IntKind.u8.wrap (t6a.tmod 9)))]:List Int) isByte) <|
 let x129:Bs:=List.map byteOf ([IntKind.u8.wrap ((49:Int)+(IntKind.u8.wrap (t6a.tmod 9)))]:List Int)
 chk (decide (6+x129.length≤140737488355328)) <|
 chk (decide ((([49,46,50,46,57,46]:Bs)++x129).length+1≤140737488355328)) <|
 let x135:Int:=IntKind.u8.wrap ((49:Int)+(IntKind.u8.wrap (i64.wrap (t6a.tdiv 9))))
 chk (List.all ([x135]:List Int) isByte) <|
 chk (decide (((([49,46,50,46,57,46]:Bs)++x129)++([46]:Bs)).length+(List.map byteOf ([x135]:List Int)).length≤140737488355328)) <|
 let x138:Bs:=((([49,46,50,46,57,46]:Bs)++x129)++([46]:Bs))++(List.map byteOf ([x135]:List Int))
 chk (decide ((l1000000a.length+1)*41≤140737488355328)) <|
 k1 (i64.wrap (t6a+1),r117.2.1,r117.2.2,b34048_0a,b34048_1a,b34048_2a,b34048_3a,b34048_7a,b34048_8a,b34048_9a,b34048_11a,b34048_12a,b34048_13a,b34048_14a,b34048_15a,b34048_17a,l34821a,l34822a,l34823a,l34827a,l34833a,l1000000a++([(x138,false,([5,0]:Bs))]:List (Bs×Bool×Bs))))
 else(x2 (r117.2.1,r117.2.2,b34048_0a,b34048_1a,b34048_2a,b34048_3a,b34048_7a,b34048_8a,b34048_9a,b34048_11a,b34048_12a,b34048_13a,b34048_14a,b34048_15a,b34048_17a,l34821a,l34822a,l34823a,l34827a,l34833a,l1000000a)))
 N (0,r10.2.1,r10.2.2,r8.1.1,r8.1.2.1,r8.1.2.2.1,r8.1.2.2.2.1,r8.1.2.2.2.2.2.2.2.1,r8.1.2.2.2.2.2.2.2.2.1,r8.1.2.2.2.2.2.2.2.2.2.1,r8.1.2.2.2.2.2.2.2.2.2.2.2.1,r8.1.2.2.2.2.2.2.2.2.2.2.2.2.1,r8.1.2.2.2.2.2.2.2.2.2.2.2.2.2.1,r8.1.2.2.2.2.2.2.2.2.2.2.2.2.2.2.1,r8.1.2.2.2.2.2.2.2.2.2.2.2.2.2.2.2.1,r8.1.2.2.2.2.2.2.2.2.2.2.2.2.2.2.2.2.2.1,r8.1.2.2.2.2.1,r8.1.2.2.2.2.2.1,r8.1.2.2.2.2.2.2.1,r8.1.2.2.2.2.2.2.2.2.2.2.1,r8.1.2.2.2.2.2.2.2.2.2.2.2.2.2.2.2.2.1,r8.1.2.2.2.2.2.2.2.2.2.2.2.2.2.2.2.2.2.2) (U21 fun b0_0b b0_1b b34048_0b b34048_1b b34048_2b b34048_3b b34048_7b b34048_8b b34048_9b b34048_11b b34048_12b b34048_13b b34048_14b b34048_15b b34048_17b l34821b l34822b l34823b l34827b l34833b l1004096b =>
 some ((b34048_0b,b34048_1b,b34048_2b,b34048_3b,l34821b,l34822b,l34823b,b34048_7b,b34048_8b,b34048_9b,l34827b,b34048_11b,b34048_12b,b34048_13b,b34048_14b,b34048_15b,l34833b,b34048_17b,l1004096b),(b0_0b,b0_1b))))
 else(bif (r10.1==14)then(Ad (Ap N r10.2 8) fun r146 =>
 chk (decide (i64.wrap ((28:Int)+r146.1)≤i64.wrap ((28:Int)+r146.1))) <|
 chk (decide (0≤i64.wrap ((28:Int)+r146.1))) <|
 chk (decide ((i64.wrap ((28:Int)+r146.1))*2≤140737488355328)) <|
 let y70656:List Int:=(List.replicate (i64.wrap ((28:Int)+r146.1)).toNat 0:List Int)
 chk (List.all y70656 isByte) <|
 some ((r8.1.1,r8.1.2.1,r8.1.2.2.1,r8.1.2.2.2.1,r8.1.2.2.2.2.1,r8.1.2.2.2.2.2.1,r8.1.2.2.2.2.2.2.1,r8.1.2.2.2.2.2.2.2.1,r8.1.2.2.2.2.2.2.2.2.1,r8.1.2.2.2.2.2.2.2.2.2.1,r8.1.2.2.2.2.2.2.2.2.2.2.1,r8.1.2.2.2.2.2.2.2.2.2.2.2.1,r8.1.2.2.2.2.2.2.2.2.2.2.2.2.1,r8.1.2.2.2.2.2.2.2.2.2.2.2.2.2.1,List.map byteOf y70656,r8.1.2.2.2.2.2.2.2.2.2.2.2.2.2.2.2.1,r8.1.2.2.2.2.2.2.2.2.2.2.2.2.2.2.2.2.1,r8.1.2.2.2.2.2.2.2.2.2.2.2.2.2.2.2.2.2.1,r8.1.2.2.2.2.2.2.2.2.2.2.2.2.2.2.2.2.2.2),r146.2))
 else(bif (r10.1==15)then(Ak (X:=List Int×Int×Bool×Bool×Int×Int×Int×Int×Int×Bool×List Yq1×List Yq1×Bs×Bs×List Yq2×List Bs×List Bs×(List (Bs×Bs))×List Yq2×(List (Bs×Bool×Bs))×List Yq1) (Y:=(List Int×Int×Bool×Bool×Int×Int×Int×Int×Int×Bool×List Yq1×List Yq1×Bs×Bs×List Yq2×List Bs×List Bs×(List (Bs×Bs))×List Yq2×(List (Bs×Bool×Bs))×List Yq1)) (U21 fun b0_0c b0_1c b34048_0c b34048_1c b34048_2c b34048_3c b34048_7c b34048_8c b34048_9c b34048_11c b34048_12c b34048_13c b34048_14c b34048_15c b34048_17c l34821c l34822c l34823c l34833c l34835c l1008192c k3 x4 =>
 Ad (Ap N (b0_0c,b0_1c) 6) fun r157 =>
 let x159:Bool:=decide ((l1008192c.length:Int)<(i64.wrap ((13:Int)+r157.1)))
 bif x159 then(Ad (GL N r157.2) fun r163 =>
 chk (decide ((l1008192c.length+1)*49≤140737488355328)) <|
 k3 (r163.2.1,r163.2.2,b34048_0c,b34048_1c,b34048_2c,b34048_3c,b34048_7c,b34048_8c,b34048_9c,b34048_11c,b34048_12c,b34048_13c,b34048_14c,b34048_15c,b34048_17c,l34821c,l34822c,l34823c,l34833c,l34835c,l1008192c++([r163.1]:List Yq1)))
 else(x4 (r157.2.1,r157.2.2,b34048_0c,b34048_1c,b34048_2c,b34048_3c,b34048_7c,b34048_8c,b34048_9c,b34048_11c,b34048_12c,b34048_13c,b34048_14c,b34048_15c,b34048_17c,l34821c,l34822c,l34823c,l34833c,l34835c,l1008192c)))
 N (r10.2.1,r10.2.2,r8.1.1,r8.1.2.1,r8.1.2.2.1,r8.1.2.2.2.1,r8.1.2.2.2.2.2.2.2.1,r8.1.2.2.2.2.2.2.2.2.1,r8.1.2.2.2.2.2.2.2.2.2.1,r8.1.2.2.2.2.2.2.2.2.2.2.2.1,r8.1.2.2.2.2.2.2.2.2.2.2.2.2.1,r8.1.2.2.2.2.2.2.2.2.2.2.2.2.2.1,r8.1.2.2.2.2.2.2.2.2.2.2.2.2.2.2.1,r8.1.2.2.2.2.2.2.2.2.2.2.2.2.2.2.2.1,r8.1.2.2.2.2.2.2.2.2.2.2.2.2.2.2.2.2.2.1,r8.1.2.2.2.2.1,r8.1.2.2.2.2.2.1,r8.1.2.2.2.2.2.2.1,r8.1.2.2.2.2.2.2.2.2.2.2.2.2.2.2.2.2.1,r8.1.2.2.2.2.2.2.2.2.2.2.2.2.2.2.2.2.2.2,r8.1.2.2.2.2.2.2.2.2.2.2.1) (U21 fun b0_0d b0_1d b34048_0d b34048_1d b34048_2d b34048_3d b34048_7d b34048_8d b34048_9d b34048_11d b34048_12d b34048_13d b34048_14d b34048_15d b34048_17d l34821d l34822d l34823d l34833d l34835d l1012288d =>
 some ((b34048_0d,b34048_1d,b34048_2d,b34048_3d,l34821d,l34822d,l34823d,b34048_7d,b34048_8d,b34048_9d,l1012288d,b34048_11d,b34048_12d,b34048_13d,b34048_14d,b34048_15d,l34833d,b34048_17d,l34835d),(b0_0d,b0_1d))))
 else(some (r8.1,r10.2)))))))))))))))))
abbrev AiM:Type:=List Int×Int
def uS (N:Nat) (p0:List Int):Option AiM :=
 some (p0,0)
abbrev AfL:Type:=List Int×Bool
def LX (N:Nat) (p0:Bs):Option AfL :=
 Ak (X:=Int×Int×List Int) (Y:=(List Int)) (U3 fun t5a t6a l1000000a k1 x2 =>
 bif decide (t6a≤(p0.length:Int))then(chk ((decide (t6a<(p0.length:Int)))||(!(decide (t6a<(p0.length:Int))))) <|
 chk ((decide (t6a<(p0.length:Int)))||(!(decide (t6a<(p0.length:Int))))) <|
 chk ((decide (0≤t6a))||(!(decide (t6a<(p0.length:Int))))) <|
 chk ((decide (t6a<(p0.length:Int)))||(!(decide (t6a<(p0.length:Int))))) <|
 chk ((decide (t6a<(p0.length:Int)))||(!(decide (t6a<(p0.length:Int))))) <|
 chk (bif decide (t6a<(p0.length:Int))then decide (t6a<(p0.length:Int))else true) <|
 chk (bif decide (t6a<(p0.length:Int))then true else true) <|
 let x25:Bool:=bif decide (t6a<(p0.length:Int))then(((p0.getD t6a.toNat 0).toNat:Int) != 46)else false
 bif x25 then(chk (decide (0≤t6a)) <|
 chk (decide (t6a<(p0.length:Int))) <|
 chk ((!(decide (((p0.getD t6a.toNat 0).toNat:Int)<48)))||(!(!(decide (((p0.getD t6a.toNat 0).toNat:Int)<48))))) <|
 chk ((!(decide (((p0.getD t6a.toNat 0).toNat:Int)<48)))||(!(!(decide (((p0.getD t6a.toNat 0).toNat:Int)<48))))) <|
 chk ((decide (0≤t6a))||(!(!(decide (((p0.getD t6a.toNat 0).toNat:Int)<48))))) <|
 chk ((decide (t6a<(p0.length:Int)))||(!(!(decide (((p0.getD t6a.toNat 0).toNat:Int)<48))))) <|
 chk ((!(decide (((p0.getD t6a.toNat 0).toNat:Int)<48)))||(!(!(decide (((p0.getD t6a.toNat 0).toNat:Int)<48))))) <|
 chk (bif decide (((p0.getD t6a.toNat 0).toNat:Int)<48)then true else !(decide (((p0.getD t6a.toNat 0).toNat:Int)<48))) <|
 chk (bif decide (((p0.getD t6a.toNat 0).toNat:Int)<48)then true else true) <|
 let x35:Bool:=bif decide (((p0.getD t6a.toNat 0).toNat:Int)<48)then true else decide (((p0.getD t6a.toNat 0).toNat:Int)>57)
 bif x35 then(some (([]:List Int),false))
 else(k1 (t5a,i64.wrap (t6a+1),l1000000a)))
 else(chk (decide (0≤t5a)) <|
 chk (decide (t5a≤t6a)) <|
 chk (decide (t6a≤(p0.length:Int))) <|
 Af (((AO p0 t5a.toNat t6a.toNat).length:Int)==0) fun b3 =>
 chk (!b3|| !!b3) <|
 chk (!b3|| !!b3) <|
 chk (bif b3 then true else !b3) <|
 chk (bif b3 then true else true) <|
 Af (bif b3 then true else decide (((AO p0 t5a.toNat t6a.toNat).length:Int)>10)) fun b4 =>
 Af (b4) fun b5 =>
 chk (!b5|| !!b5) <|
 chk (!b5|| !!b5) <|
 chk (!b5|| !!b5) <|
 Af (decide (((AO p0 t5a.toNat t6a.toNat).length:Int)>1)) fun b6 =>
 chk (((!b5)&&b6)||(!((!b5)&&b6))) <|
 chk ((decide (0<((AO p0 t5a.toNat t6a.toNat).length:Int)))||(!((!b5)&&b6))) <|
 chk (((!b5)&&b6)||(!((!b5)&&b6))) <|
 chk (!b5|| !!b5) <|
 chk ((bif b6 then((!b5)&&b6)else true)||(!!b5)) <|
 chk ((bif b6 then true else true)||(!!b5)) <|
 Af (bif b6 then((((AO p0 t5a.toNat t6a.toNat).getD 0 0).toNat:Int)==48)else false) fun b7 =>
 chk (bif b5 then true else !b5) <|
 chk (bif b5 then true else true) <|
 Af (bif b5 then true else b7) fun b8 =>
 Af (b8) fun b9 =>
 chk (!b9|| !!b9) <|
 chk (!b9|| !!b9) <|
 chk (bif b9 then true else !b9) <|
 chk (bif b9 then true else true) <|
 Af (bif b9 then true else((l1000000a.length:Int)==12)) fun b10 =>
 bif b10 then(some (([]:List Int),false))
 else(Ak (X:=Int×Int×List Int) (Y:=(Int×List Int)) (U3 fun t8b t9b l1004096b k11 x12 =>
 bif decide (t9b<((AO p0 t5a.toNat t6a.toNat).length:Int))then(chk (decide (0≤t9b)) <|
 chk (decide (t9b<((AO p0 t5a.toNat t6a.toNat).length:Int))) <|
 let x74:Int:=IntKind.u8.wrap ((((AO p0 t5a.toNat t6a.toNat).getD t9b.toNat 0).toNat:Int) - 48)
 let x76:Int:=i64.wrap ((i64.wrap ((10:Int)*t8b))+(i64.wrap x74))
 k11 (x76,i64.wrap (t9b+1),l1004096b))
 else(x12 (t8b,l1004096b)))
 N (0,0,l1000000a) (U2 fun t8c l1008192c =>
 bif decide (t8c>2147483647)then(some (([]:List Int),false))
 else(chk (decide ((l1008192c.length+1)*9≤140737488355328)) <|
 k1 (i64.wrap (t6a+1),i64.wrap (t6a+1),l1008192c++([t8c]:List Int)))))))
 else(x2 l1000000a))
 N (0,0,([]:List Int)) (fun l1012288d =>
 Af (decide ((l1012288d.length:Int)<2)) fun b13 =>
 chk (!b13|| !!b13) <|
 chk ((decide (0<(l1012288d.length:Int)))||(!!b13)) <|
 chk (!b13|| !!b13) <|
 chk ((decide (0<l1012288d.length))||(!!b13)) <|
 chk (!b13|| !!b13) <|
 chk (bif b13 then true else !b13) <|
 chk (bif b13 then true else true) <|
 Af (bif b13 then true else decide ((l1012288d.getD 0 0)>2)) fun b14 =>
 Af (b14) fun b15 =>
 chk (!b15|| !!b15) <|
 chk ((decide (0<(l1012288d.length:Int)))||(!!b15)) <|
 chk (!b15|| !!b15) <|
 chk ((decide (0<l1012288d.length))||(!!b15)) <|
 chk (!b15|| !!b15) <|
 chk (!b15|| !!b15) <|
 Af (decide ((l1012288d.getD 0 0)<2)) fun b16 =>
 chk (((!b15)&&b16)||(!((!b15)&&b16))) <|
 chk ((decide (1<(l1012288d.length:Int)))||(!((!b15)&&b16))) <|
 chk (((!b15)&&b16)||(!((!b15)&&b16))) <|
 chk ((decide (1<l1012288d.length))||(!((!b15)&&b16))) <|
 chk (((!b15)&&b16)||(!((!b15)&&b16))) <|
 chk (!b15|| !!b15) <|
 chk ((bif b16 then((!b15)&&b16)else true)||(!!b15)) <|
 chk ((bif b16 then true else true)||(!!b15)) <|
 Af (bif b16 then decide ((l1012288d.getD 1 0)>39)else false) fun b17 =>
 chk (bif b15 then true else !b15) <|
 chk (bif b15 then true else true) <|
 Af (bif b15 then true else b17) fun b18 =>
 bif b18 then(some (([]:List Int),false))
 else(some (l1012288d,true)))
abbrev vX:Type:=Bool
def Dz (N:Nat) (p0:Bs):Option vX :=
 Ad (LX N p0) fun r7 =>
 some r7.2
abbrev AfN:Type:=Bool
def P9 (N:Nat) (p0:Bs):Option AfN :=
 Ak (X:=Int) (Y:=Unit) (fun t3a k1 x2 =>
 bif decide (t3a<(p0.length:Int))then(chk (decide (0≤t3a)) <|
 chk (decide (t3a<(p0.length:Int))) <|
 CS (α :=Int×Int×Int) (fun j3 =>
 chk ((!(decide (((p0.getD t3a.toNat 0).toNat:Int)<32)))||(!(!(decide (((p0.getD t3a.toNat 0).toNat:Int)<32))))) <|
 chk (bif decide (((p0.getD t3a.toNat 0).toNat:Int)<32)then true else !(decide (((p0.getD t3a.toNat 0).toNat:Int)<32))) <|
 chk (bif decide (((p0.getD t3a.toNat 0).toNat:Int)<32)then true else true) <|
 let x22:Bool:=bif decide (((p0.getD t3a.toNat 0).toNat:Int)<32)then true else(((p0.getD t3a.toNat 0).toNat:Int)==127)
 bif x22 then(some false)
 else(bif decide (((p0.getD t3a.toNat 0).toNat:Int)<128)then(k1 (i64.wrap (t3a+1)))
 else(chk ((decide (((p0.getD t3a.toNat 0).toNat:Int)≥192))||(!(decide (((p0.getD t3a.toNat 0).toNat:Int)≥192)))) <|
 chk (bif decide (((p0.getD t3a.toNat 0).toNat:Int)≥192)then decide (((p0.getD t3a.toNat 0).toNat:Int)≥192)else true) <|
 chk (bif decide (((p0.getD t3a.toNat 0).toNat:Int)≥192)then true else true) <|
 let x34:Bool:=bif decide (((p0.getD t3a.toNat 0).toNat:Int)≥192)then decide (((p0.getD t3a.toNat 0).toNat:Int)<224)else false
 bif x34 then(j3 (t3a,1,128))
 else(chk ((decide (((p0.getD t3a.toNat 0).toNat:Int)≥224))||(!(decide (((p0.getD t3a.toNat 0).toNat:Int)≥224)))) <|
 chk (bif decide (((p0.getD t3a.toNat 0).toNat:Int)≥224)then decide (((p0.getD t3a.toNat 0).toNat:Int)≥224)else true) <|
 chk (bif decide (((p0.getD t3a.toNat 0).toNat:Int)≥224)then true else true) <|
 let x41:Bool:=bif decide (((p0.getD t3a.toNat 0).toNat:Int)≥224)then decide (((p0.getD t3a.toNat 0).toNat:Int)<240)else false
 bif x41 then(j3 (t3a,2,2048))
 else(chk ((decide (((p0.getD t3a.toNat 0).toNat:Int)≥240))||(!(decide (((p0.getD t3a.toNat 0).toNat:Int)≥240)))) <|
 chk (bif decide (((p0.getD t3a.toNat 0).toNat:Int)≥240)then decide (((p0.getD t3a.toNat 0).toNat:Int)≥240)else true) <|
 chk (bif decide (((p0.getD t3a.toNat 0).toNat:Int)≥240)then true else true) <|
 let x48:Bool:=bif decide (((p0.getD t3a.toNat 0).toNat:Int)≥240)then decide (((p0.getD t3a.toNat 0).toNat:Int)<248)else false
 bif x48 then(j3 (t3a,3,65536))
 else(some false))))))
 (U3 fun t3b t5b t6b =>
 bif decide ((i64.wrap ((p0.length:Int) - t3b))≤t5b)then(some false)
 else(chk (decide (0≤i64.wrap ((6:Int) - t5b))) <|
 let x59:Int:=i64.wrap ((1:Int)*(2 ^ (min (i64.wrap ((6:Int) - t5b)).toNat 64)))
 let x61:Int:=BP .and .i64 (i64.wrap ((p0.getD t3a.toNat 0).toNat:Int)) (i64.wrap (x59 - 1))
 Ak (X:=Int×Int) (Y:=Int) (U2 fun t7c t8c k4 x5 =>
 bif decide (t8c≤t5b)then(chk (decide (0≤i64.wrap (t3b+t8c))) <|
 chk (decide (i64.wrap (t3b+t8c)<(p0.length:Int))) <|
 let x72:Int:=IntKind.u8.wrap (((p0.getD ((i64.wrap (t3b+t8c)).toNat) 0).toNat:Int).tdiv 64)
 bif (x72 != 2)then(some false)
 else(chk (decide (0≤i64.wrap (t3b+t8c))) <|
 chk (decide (i64.wrap (t3b+t8c)<(p0.length:Int))) <|
 let x81:Int:=((p0.getD ((i64.wrap (t3b+t8c)).toNat) 0).toNat:Int).tmod 64
 let x83:Int:=i64.wrap ((i64.wrap ((64:Int)*t7c))+(i64.wrap x81))
 k4 (x83,i64.wrap (t8c+1))))
 else(x5 t7c))
 N (x61,1) (fun t7d =>
 Af (decide (t7d<t6b)) fun b6 =>
 chk (!b6|| !!b6) <|
 chk (bif b6 then true else !b6) <|
 chk (bif b6 then true else true) <|
 Af (bif b6 then true else decide (t7d>1114111)) fun b7 =>
 Af (b7) fun b8 =>
 chk (!b8|| !!b8) <|
 chk (!b8|| !!b8) <|
 Af (decide (t7d≥55296)) fun b9 =>
 chk (((!b8)&&b9)||(!((!b8)&&b9))) <|
 chk (!b8|| !!b8) <|
 chk ((bif b9 then((!b8)&&b9)else true)||(!!b8)) <|
 chk ((bif b9 then true else true)||(!!b8)) <|
 Af (bif b9 then decide (t7d<57344)else false) fun b10 =>
 chk (bif b8 then true else !b8) <|
 chk (bif b8 then true else true) <|
 Af (bif b8 then true else b10) fun b11 =>
 bif b11 then(some false)
 else(k1 (i64.wrap (t3b+(i64.wrap (t5b+1)))))))))
 else(x2 ()))
 N 0 (fun _ =>
 some true)
abbrev Ado:Type:=Bool
def Gx (N:Nat) (p0:Int):Option Ado :=
 Af (decide (p0≥65)) fun b1 =>
 chk (b1||(!b1)) <|
 chk (bif b1 then b1 else true) <|
 chk (bif b1 then true else true) <|
 Af (bif b1 then decide (p0≤90)else false) fun b2 =>
 Af (b2) fun b3 =>
 chk (!b3|| !!b3) <|
 chk (!b3|| !!b3) <|
 Af (decide (p0≥97)) fun b4 =>
 chk (((!b3)&&b4)||(!((!b3)&&b4))) <|
 chk (!b3|| !!b3) <|
 chk ((bif b4 then((!b3)&&b4)else true)||(!!b3)) <|
 chk ((bif b4 then true else true)||(!!b3)) <|
 Af (bif b4 then decide (p0≤122)else false) fun b5 =>
 chk (bif b3 then true else !b3) <|
 chk (bif b3 then true else true) <|
 Af (bif b3 then true else b5) fun b6 =>
 Af (b6) fun b7 =>
 chk (!b7|| !!b7) <|
 chk (!b7|| !!b7) <|
 Af (decide (p0≥48)) fun b8 =>
 chk (((!b7)&&b8)||(!((!b7)&&b8))) <|
 chk (!b7|| !!b7) <|
 chk ((bif b8 then((!b7)&&b8)else true)||(!!b7)) <|
 chk ((bif b8 then true else true)||(!!b7)) <|
 Af (bif b8 then decide (p0≤57)else false) fun b9 =>
 chk (bif b7 then true else !b7) <|
 chk (bif b7 then true else true) <|
 Af (bif b7 then true else b9) fun b10 =>
 some b10
abbrev Adq:Type:=Bool
def IA (N:Nat) (p0:Int) (p1:Bs):Option Adq :=
 Ak (X:=Int) (Y:=Unit) (fun t5a k1 x2 =>
 bif decide (t5a<(p1.length:Int))then(chk (decide (0≤t5a)) <|
 chk (decide (t5a<(p1.length:Int))) <|
 bif (((p1.getD t5a.toNat 0).toNat:Int)==p0)then(some true)
 else(k1 (i64.wrap (t5a+1))))
 else(x2 ()))
 N 0 (fun _ =>
 some false)
abbrev oU:Type:=Bool
def D9 (N:Nat) (p0:Int) (p1:Bs):Option oU :=
 bif (p0==12)then(Ad (P9 N p1) fun r10 =>
 some r10)
 else(CS (α :=Bool) (fun j1 =>
 bif (p0==19)then(j1 (p0==19))
 else(j1 (p0==22)))
 (fun t11a =>
 bif t11a then(Ak (X:=Int) (Y:=Unit) (fun t5b k2 x3 =>
 bif decide (t5b<(p1.length:Int))then(Af (p0==22) fun b4 =>
 chk (b4||(!b4)) <|
 chk (b4||(!b4)) <|
 chk ((decide (0≤t5b))||(!b4)) <|
 chk ((decide (t5b<(p1.length:Int)))||(!b4)) <|
 chk (b4||(!b4)) <|
 chk (b4||(!b4)) <|
 Af (decide (((p1.getD t5b.toNat 0).toNat:Int)<32)) fun b5 =>
 chk ((b4&&(!b5))||(!(b4&&(!b5)))) <|
 chk ((b4&&(!b5))||(!(b4&&(!b5)))) <|
 chk ((decide (0≤t5b))||(!(b4&&(!b5)))) <|
 chk ((decide (t5b<(p1.length:Int)))||(!(b4&&(!b5)))) <|
 chk ((b4&&(!b5))||(!(b4&&(!b5)))) <|
 chk (b4||(!b4)) <|
 chk ((bif b5 then true else(b4&&(!b5)))||(!b4)) <|
 chk ((bif b5 then true else true)||(!b4)) <|
 Af (bif b5 then true else decide (((p1.getD t5b.toNat 0).toNat:Int)>126)) fun b6 =>
 chk (bif b4 then b4 else true) <|
 chk (bif b4 then true else true) <|
 Af (bif b4 then b6 else false) fun b7 =>
 Af (b7) fun b8 =>
 chk (!b8|| !!b8) <|
 chk (!b8|| !!b8) <|
 Af (p0==19) fun b9 =>
 chk (((!b8)&&b9)||(!((!b8)&&b9))) <|
 chk (((!b8)&&b9)||(!((!b8)&&b9))) <|
 chk ((decide (0≤t5b))||(!((!b8)&&b9))) <|
 chk ((decide (t5b<(p1.length:Int)))||(!((!b8)&&b9))) <|
 chk (((!b8)&&b9)||(!((!b8)&&b9))) <|
 chk (((Gx N ((p1.getD t5b.toNat 0).toNat:Int)).isSome)||(!((!b8)&&b9))) <|
 let r41:=(Gx N ((p1.getD t5b.toNat 0).toNat:Int)).getD default
 chk (((!b8)&&b9)||(!((!b8)&&b9))) <|
 chk (!b8|| !!b8) <|
 chk ((bif b9 then((!b8)&&b9)else true)||(!!b8)) <|
 chk ((bif b9 then true else true)||(!!b8)) <|
 Af (bif b9 then !r41 else false) fun b10 =>
 chk (!b8|| !!b8) <|
 Af (b10) fun b11 =>
 chk (((!b8)&&b11)||(!((!b8)&&b11))) <|
 chk (((!b8)&&b11)||(!((!b8)&&b11))) <|
 chk ((decide (0≤t5b))||(!((!b8)&&b11))) <|
 chk ((decide (t5b<(p1.length:Int)))||(!((!b8)&&b11))) <|
 chk (((!b8)&&b11)||(!((!b8)&&b11))) <|
 chk (((IA N ((p1.getD t5b.toNat 0).toNat:Int) ([32,39,40,41,43,44,45,46,47,58,61,63]:Bs)).isSome)||(!((!b8)&&b11))) <|
 let r48:=(IA N ((p1.getD t5b.toNat 0).toNat:Int) ([32,39,40,41,43,44,45,46,47,58,61,63]:Bs)).getD default
 chk (((!b8)&&b11)||(!((!b8)&&b11))) <|
 chk (!b8|| !!b8) <|
 chk ((bif b11 then((!b8)&&b11)else true)||(!!b8)) <|
 chk ((bif b11 then true else true)||(!!b8)) <|
 Af (bif b11 then !r48 else false) fun b12 =>
 chk (bif b8 then true else !b8) <|
 chk (bif b8 then true else true) <|
 Af (bif b8 then true else b12) fun b13 =>
 bif b13 then(some false)
 else(k2 (i64.wrap (t5b+1))))
 else(x3 ()))
 N 0 (fun _ =>
 some true))
 else(some false)))
abbrev Vz:Type:=Int
def Dh (N:Nat) (p0:Yq0):Option Vz :=
 Ak (X:=Int) (Y:=Unit) (fun t8a k1 x2 =>
 bif decide (t8a<(p0.length:Int))then(chk (decide (0≤t8a)) <|
 chk (decide (t8a<(p0.length:Int))) <|
 Ad (Dz N ((p0.getD t8a.toNat (([]:Bs),0,([]:Bs))).1)) fun r15 =>
 bif !r15 then(some 11)
 else(let x20:Bool:=((((p0.getD t8a.toNat (([]:Bs),0,([]:Bs))).2.2).length:Int)==0)
 chk (!x20|| !!x20) <|
 chk (!x20|| !!x20) <|
 chk (!x20|| !!x20) <|
 chk (!x20|| !!x20) <|
 chk (((D9 N ((p0.getD t8a.toNat (([]:Bs),0,([]:Bs))).2.1) ((p0.getD t8a.toNat (([]:Bs),0,([]:Bs))).2.2)).isSome)||(!!x20)) <|
 let r26:=(D9 N ((p0.getD t8a.toNat (([]:Bs),0,([]:Bs))).2.1) ((p0.getD t8a.toNat (([]:Bs),0,([]:Bs))).2.2)).getD default
 chk (!x20|| !!x20) <|
 chk (bif x20 then true else !x20) <|
 chk (bif x20 then true else true) <|
 bif bif x20 then true else !r26 then(some 13)
 else(let x32:Bool:=decide ((((p0.getD t8a.toNat (([]:Bs),0,([]:Bs))).2.2).length:Int)>64)
 bif x32 then(some 2)
 else(Ak (X:=Int×Bs×Int×Bs) (Y:=Unit) (U4 fun t5b b33792_0b b33792_1b b33792_2b k3 x4 =>
 bif decide (t5b<t8a)then(chk (decide (0≤t5b)) <|
 chk (decide (t5b<(p0.length:Int))) <|
 bif (((p0.getD t5b.toNat (([]:Bs),0,([]:Bs))).1)==b33792_0b)then(some 10)
 else(k3 (i64.wrap (t5b+1),b33792_0b,b33792_1b,b33792_2b)))
 else(x4 ()))
 N (0,(p0.getD t8a.toNat (([]:Bs),0,([]:Bs))).1,(p0.getD t8a.toNat (([]:Bs),0,([]:Bs))).2.1,(p0.getD t8a.toNat (([]:Bs),0,([]:Bs))).2.2) (fun _ =>
 k1 (i64.wrap (t8a+1)))))))
 else(x2 ()))
 N 0 (fun _ =>
 some 0)
abbrev oW:Type:=Int
def ED (N:Nat) (p0:List Yq0):Option oW :=
 bif decide ((p0.length:Int)>8)then(some 2)
 else(Ak (X:=Int) (Y:=Unit) (fun t13a k1 x2 =>
 bif decide (t13a<(p0.length:Int))then(chk (decide (0≤t13a)) <|
 chk (decide (t13a<(p0.length:Int))) <|
 let x19:Bool:=(((p0.getD t13a.toNat ([]:List (Bs×Int×Bs))).length:Int)==0)
 bif x19 then(some 14)
 else(let x22:Bool:=decide (((p0.getD t13a.toNat ([]:List (Bs×Int×Bs))).length:Int)>4)
 bif x22 then(some 2)
 else(Ad (Dh N (p0.getD t13a.toNat ([]:List (Bs×Int×Bs)))) fun r24 =>
 bif (r24 != 0)then(some r24)
 else(k1 (i64.wrap (t13a+1))))))
 else(x2 ()))
 N 0 (fun _ =>
 some 0))
abbrev Ad5:Type:=List Bs
def Gz (N:Nat) (p0:Bs) (p1:Int):Option Ad5 :=
 Ak (X:=Int×Int×List Bs) (Y:=(List Bs)) (U3 fun t6a t7a l1000000a k1 x2 =>
 bif decide (t7a≤(p0.length:Int))then(chk ((!(t7a==(p0.length:Int)))||(!(!(t7a==(p0.length:Int))))) <|
 chk ((!(t7a==(p0.length:Int)))||(!(!(t7a==(p0.length:Int))))) <|
 chk ((decide (0≤t7a))||(!(!(t7a==(p0.length:Int))))) <|
 chk ((decide (t7a<(p0.length:Int)))||(!(!(t7a==(p0.length:Int))))) <|
 chk ((!(t7a==(p0.length:Int)))||(!(!(t7a==(p0.length:Int))))) <|
 chk ((!(t7a==(p0.length:Int)))||(!(!(t7a==(p0.length:Int))))) <|
 chk (bif (t7a==(p0.length:Int))then true else !(t7a==(p0.length:Int))) <|
 chk (bif (t7a==(p0.length:Int))then true else true) <|
 let x24:Bool:=bif (t7a==(p0.length:Int))then true else(((p0.getD t7a.toNat 0).toNat:Int)==p1)
 bif x24 then(chk (decide (0≤t6a)) <|
 chk (decide (t6a≤t7a)) <|
 chk (decide (t7a≤(p0.length:Int))) <|
 chk (decide ((l1000000a.length+1)*17≤140737488355328)) <|
 k1 (i64.wrap (t7a+1),i64.wrap (t7a+1),l1000000a++([AO p0 t6a.toNat t7a.toNat]:List Bs)))
 else(k1 (t6a,i64.wrap (t7a+1),l1000000a)))
 else(x2 l1000000a))
 N (0,0,([]:List Bs)) (fun l1004096b =>
 some l1004096b)
abbrev AgS:Type:=Bool
def DV (N:Nat) (p0:Bs):Option AgS :=
 bif decide ((p0.length:Int)>128)then(some false)
 else(Ad (Gz N p0 46) fun r10 =>
 Ak (X:=Int) (Y:=Unit) (fun t12a k1 x2 =>
 bif decide (t12a<(r10.length:Int))then(chk (decide (0≤t12a)) <|
 chk (decide (t12a<(r10.length:Int))) <|
 Af (decide (((r10.getD t12a.toNat ([]:Bs)).length:Int)<1)) fun b3 =>
 chk (!b3|| !!b3) <|
 chk (!b3|| !!b3) <|
 chk (bif b3 then true else !b3) <|
 chk (bif b3 then true else true) <|
 Af (bif b3 then true else decide (((r10.getD t12a.toNat ([]:Bs)).length:Int)>63)) fun b4 =>
 Af (b4) fun b5 =>
 chk (!b5|| !!b5) <|
 chk ((decide (0<((r10.getD t12a.toNat ([]:Bs)).length:Int)))||(!!b5)) <|
 chk (!b5|| !!b5) <|
 let x27:Bool:=((((r10.getD t12a.toNat ([]:Bs)).getD 0 0).toNat:Int)==45)
 chk (bif b5 then true else !b5) <|
 chk (bif b5 then true else true) <|
 Af (bif b5 then true else x27) fun b6 =>
 Af (b6) fun b7 =>
 chk (!b7|| !!b7) <|
 chk (!b7|| !!b7) <|
 let x33:Int:=i64.wrap (((r10.getD t12a.toNat ([]:Bs)).length:Int) - 1)
 chk (!b7|| !!b7) <|
 chk (!b7|| !!b7) <|
 chk ((decide (0≤x33))||(!!b7)) <|
 chk ((decide (x33<((r10.getD t12a.toNat ([]:Bs)).length:Int)))||(!!b7)) <|
 chk (!b7|| !!b7) <|
 let x35:Bool:=((((r10.getD t12a.toNat ([]:Bs)).getD x33.toNat 0).toNat:Int)==45)
 chk (bif b7 then true else !b7) <|
 chk (bif b7 then true else true) <|
 Af (bif b7 then true else x35) fun b8 =>
 bif b8 then(some false)
 else(Ak (X:=Int) (Y:=Unit) (fun t5b k9 x10 =>
 bif decide (t5b<((r10.getD t12a.toNat ([]:Bs)).length:Int))then(chk (decide (0≤t5b)) <|
 chk (decide (t5b<((r10.getD t12a.toNat ([]:Bs)).length:Int))) <|
 Ad (Gx N (((r10.getD t12a.toNat ([]:Bs)).getD t5b.toNat 0).toNat:Int)) fun r46 =>
 chk (!r46|| !!r46) <|
 chk (!r46|| !!r46) <|
 chk ((decide (0≤t5b))||(!!r46)) <|
 chk ((decide (t5b<((r10.getD t12a.toNat ([]:Bs)).length:Int)))||(!!r46)) <|
 chk (!r46|| !!r46) <|
 let x52:Bool:=((((r10.getD t12a.toNat ([]:Bs)).getD t5b.toNat 0).toNat:Int) != 45)
 chk (bif !r46 then !r46 else true) <|
 chk (bif !r46 then true else true) <|
 bif bif !r46 then x52 else false then(some false)
 else(k9 (i64.wrap (t5b+1))))
 else(x10 ()))
 N 0 (fun _ =>
 k1 (i64.wrap (t12a+1)))))
 else(x2 ()))
 N 0 (fun _ =>
 some true))
abbrev Ad8:Type:=Bs×Bs×Bool
def QM (N:Nat) (p0:Bs):Option Ad8 :=
 bif decide ((p0.length:Int)>128)then(some (([]:Bs),([]:Bs),false))
 else(Ak (X:=Int) (Y:=Int) (fun t5a k1 x2 =>
 chk ((decide (t5a<(p0.length:Int)))||(!(decide (t5a<(p0.length:Int))))) <|
 chk ((decide (t5a<(p0.length:Int)))||(!(decide (t5a<(p0.length:Int))))) <|
 chk ((decide (0≤t5a))||(!(decide (t5a<(p0.length:Int))))) <|
 chk ((decide (t5a<(p0.length:Int)))||(!(decide (t5a<(p0.length:Int))))) <|
 chk ((decide (t5a<(p0.length:Int)))||(!(decide (t5a<(p0.length:Int))))) <|
 chk (bif decide (t5a<(p0.length:Int))then decide (t5a<(p0.length:Int))else true) <|
 chk (bif decide (t5a<(p0.length:Int))then true else true) <|
 let x19:Bool:=bif decide (t5a<(p0.length:Int))then(((p0.getD t5a.toNat 0).toNat:Int) != 64)else false
 bif x19 then(k1 (i64.wrap (t5a+1)))
 else(x2 t5a))
 N 0 (fun t5b =>
 Af (decide (t5b<1)) fun b3 =>
 chk (!b3|| !!b3) <|
 chk (bif b3 then true else !b3) <|
 chk (bif b3 then true else true) <|
 Af (bif b3 then true else decide (t5b>64)) fun b4 =>
 Af (b4) fun b5 =>
 chk (!b5|| !!b5) <|
 chk (!b5|| !!b5) <|
 chk (!b5|| !!b5) <|
 chk (bif b5 then true else !b5) <|
 chk (bif b5 then true else true) <|
 Af (bif b5 then true else(t5b==(p0.length:Int))) fun b6 =>
 Af (b6) fun b7 =>
 chk (!b7|| !!b7) <|
 chk (!b7|| !!b7) <|
 chk (!b7|| !!b7) <|
 chk ((decide (0≤i64.wrap (t5b+1)))||(!!b7)) <|
 chk ((decide (i64.wrap (t5b+1)≤(p0.length:Int)))||(!!b7)) <|
 chk (!b7|| !!b7) <|
 chk (((DV N (AO p0 ((i64.wrap (t5b+1)).toNat) p0.length)).isSome)||(!!b7)) <|
 let r39:=(DV N (AO p0 ((i64.wrap (t5b+1)).toNat) p0.length)).getD default
 chk (!b7|| !!b7) <|
 chk (bif b7 then true else !b7) <|
 chk (bif b7 then true else true) <|
 Af (bif b7 then true else !r39) fun b8 =>
 Af (b8) fun b9 =>
 chk (!b9|| !!b9) <|
 chk ((decide (0<(p0.length:Int)))||(!!b9)) <|
 chk (!b9|| !!b9) <|
 chk (bif b9 then true else !b9) <|
 chk (bif b9 then true else true) <|
 Af (bif b9 then true else(((p0.getD 0 0).toNat:Int)==46)) fun b10 =>
 Af (b10) fun b11 =>
 chk (!b11|| !!b11) <|
 chk (!b11|| !!b11) <|
 chk (!b11|| !!b11) <|
 chk ((decide (0≤i64.wrap (t5b - 1)))||(!!b11)) <|
 chk ((decide (i64.wrap (t5b - 1)<(p0.length:Int)))||(!!b11)) <|
 chk (!b11|| !!b11) <|
 let x52:Bool:=(((p0.getD ((i64.wrap (t5b - 1)).toNat) 0).toNat:Int)==46)
 chk (bif b11 then true else !b11) <|
 chk (bif b11 then true else true) <|
 Af (bif b11 then true else x52) fun b12 =>
 bif b12 then(some (([]:Bs),([]:Bs),false))
 else(Ak (X:=Int) (Y:=Unit) (fun t6c k13 x14 =>
 bif decide (t6c<t5b)then(chk (decide (0≤t6c)) <|
 chk (decide (t6c<(p0.length:Int))) <|
 Ad (Gx N ((p0.getD t6c.toNat 0).toNat:Int)) fun r62 =>
 Af (!r62) fun b15 =>
 chk (b15||(!b15)) <|
 chk (b15||(!b15)) <|
 chk ((decide (0≤t6c))||(!b15)) <|
 chk ((decide (t6c<(p0.length:Int)))||(!b15)) <|
 chk (b15||(!b15)) <|
 chk (((IA N ((p0.getD t6c.toNat 0).toNat:Int) ([33,35,36,37,38,39,42,43,45,47,61,63,94,95,96,123,124,125,126,46]:Bs)).isSome)||(!b15)) <|
 let r68:=(IA N ((p0.getD t6c.toNat 0).toNat:Int) ([33,35,36,37,38,39,42,43,45,47,61,63,94,95,96,123,124,125,126,46]:Bs)).getD default
 chk (b15||(!b15)) <|
 chk (bif b15 then b15 else true) <|
 chk (bif b15 then true else true) <|
 Af (bif b15 then !r68 else false) fun b16 =>
 Af (b16) fun b17 =>
 chk (!b17|| !!b17) <|
 chk (!b17|| !!b17) <|
 chk ((decide (0≤t6c))||(!!b17)) <|
 chk ((decide (t6c<(p0.length:Int)))||(!!b17)) <|
 chk (!b17|| !!b17) <|
 chk (!b17|| !!b17) <|
 Af (((p0.getD t6c.toNat 0).toNat:Int)==46) fun b18 =>
 chk (((!b17)&&b18)||(!((!b17)&&b18))) <|
 chk (((!b17)&&b18)||(!((!b17)&&b18))) <|
 chk (((!b17)&&b18)||(!((!b17)&&b18))) <|
 chk ((decide (0≤i64.wrap (t6c+1)))||(!((!b17)&&b18))) <|
 chk ((decide (i64.wrap (t6c+1)<(p0.length:Int)))||(!((!b17)&&b18))) <|
 chk (((!b17)&&b18)||(!((!b17)&&b18))) <|
 let x81:Bool:=(((p0.getD ((i64.wrap (t6c+1)).toNat) 0).toNat:Int)==46)
 chk (!b17|| !!b17) <|
 chk ((bif b18 then((!b17)&&b18)else true)||(!!b17)) <|
 chk ((bif b18 then true else true)||(!!b17)) <|
 Af (bif b18 then x81 else false) fun b19 =>
 chk (bif b17 then true else !b17) <|
 chk (bif b17 then true else true) <|
 Af (bif b17 then true else b19) fun b20 =>
 bif b20 then(some (([]:Bs),([]:Bs),false))
 else(k13 (i64.wrap (t6c+1))))
 else(x14 ()))
 N 0 (fun _ =>
 chk (decide (0≤t5b)) <|
 chk (decide (t5b≤(p0.length:Int))) <|
 chk (decide (0≤i64.wrap (t5b+1))) <|
 chk (decide (i64.wrap (t5b+1)≤(p0.length:Int))) <|
 some (AO p0 0 t5b.toNat,AO p0 ((i64.wrap (t5b+1)).toNat) p0.length,true)))))
abbrev AfQ:Type:=Bool
def LZ (N:Nat) (p0:Bs):Option AfQ :=
 Ad (QM N p0) fun r8 =>
 some r8.2.2
abbrev wB:Type:=Bool
def Je (N:Nat) (p0:Bs):Option wB :=
 Ad (LZ N p0) fun r4 =>
 Af (r4) fun b1 =>
 chk (!b1|| !!b1) <|
 chk (((DV N p0).isSome)||(!!b1)) <|
 let r7:=(DV N p0).getD default
 chk (bif b1 then true else !b1) <|
 chk (bif b1 then true else true) <|
 Af (bif b1 then true else r7) fun b2 =>
 Af (b2) fun b3 =>
 chk (!b3|| !!b3) <|
 chk (!b3|| !!b3) <|
 chk (!b3|| !!b3) <|
 Af (decide ((p0.length:Int)≤128)) fun b4 =>
 chk (((!b3)&&b4)||(!((!b3)&&b4))) <|
 chk (((!b3)&&b4)||(!((!b3)&&b4))) <|
 chk (!b3|| !!b3) <|
 chk ((bif b4 then((!b3)&&b4)else true)||(!!b3)) <|
 chk ((bif b4 then true else true)||(!!b3)) <|
 Af (bif b4 then decide ((p0.length:Int)>1)else false) fun b5 =>
 chk (!b3|| !!b3) <|
 Af (b5) fun b6 =>
 chk (((!b3)&&b6)||(!((!b3)&&b6))) <|
 chk ((decide (0<(p0.length:Int)))||(!((!b3)&&b6))) <|
 chk (((!b3)&&b6)||(!((!b3)&&b6))) <|
 chk (!b3|| !!b3) <|
 chk ((bif b6 then((!b3)&&b6)else true)||(!!b3)) <|
 chk ((bif b6 then true else true)||(!!b3)) <|
 Af (bif b6 then(((p0.getD 0 0).toNat:Int)==46)else false) fun b7 =>
 chk (!b3|| !!b3) <|
 Af (b7) fun b8 =>
 chk (((!b3)&&b8)||(!((!b3)&&b8))) <|
 chk ((decide (1≤(p0.length:Int)))||(!((!b3)&&b8))) <|
 chk (((!b3)&&b8)||(!((!b3)&&b8))) <|
 chk (((DV N (AO p0 1 p0.length)).isSome)||(!((!b3)&&b8))) <|
 let r26:=(DV N (AO p0 1 p0.length)).getD default
 chk (!b3|| !!b3) <|
 chk ((bif b8 then((!b3)&&b8)else true)||(!!b3)) <|
 chk ((bif b8 then true else true)||(!!b3)) <|
 Af (bif b8 then r26 else false) fun b9 =>
 chk (bif b3 then true else !b3) <|
 chk (bif b3 then true else true) <|
 Af (bif b3 then true else b9) fun b10 =>
 some b10
abbrev AfO:Type:=Bool
def PD (N:Nat) (p0:Bs):Option AfO :=
 chk ((!(p0==([]:Bs)))||(!(!(p0==([]:Bs))))) <|
 chk (((DV N p0).isSome)||(!(!(p0==([]:Bs))))) <|
 let r7:=(DV N p0).getD default
 chk (bif (p0==([]:Bs))then true else !(p0==([]:Bs))) <|
 chk (bif (p0==([]:Bs))then true else true) <|
 some (bif (p0==([]:Bs))then true else r7)
abbrev Aag:Type:=Bool
def JP (N:Nat) (p0:Bs):Option Aag :=
 Ad (DV N p0) fun r4 =>
 Af (r4) fun b1 =>
 chk (!b1|| !!b1) <|
 chk (!b1|| !!b1) <|
 chk (!b1|| !!b1) <|
 Af (decide ((p0.length:Int)≤128)) fun b2 =>
 chk (((!b1)&&b2)||(!((!b1)&&b2))) <|
 chk (((!b1)&&b2)||(!((!b1)&&b2))) <|
 chk (!b1|| !!b1) <|
 chk ((bif b2 then((!b1)&&b2)else true)||(!!b1)) <|
 chk ((bif b2 then true else true)||(!!b1)) <|
 Af (bif b2 then decide ((p0.length:Int)>2)else false) fun b3 =>
 chk (!b1|| !!b1) <|
 Af (b3) fun b4 =>
 chk (((!b1)&&b4)||(!((!b1)&&b4))) <|
 chk ((decide (2≤(p0.length:Int)))||(!((!b1)&&b4))) <|
 chk (((!b1)&&b4)||(!((!b1)&&b4))) <|
 chk (!b1|| !!b1) <|
 chk ((bif b4 then((!b1)&&b4)else true)||(!!b1)) <|
 chk ((bif b4 then true else true)||(!!b1)) <|
 Af (bif b4 then((AO p0 0 2)==([42,46]:Bs))else false) fun b5 =>
 chk (!b1|| !!b1) <|
 Af (b5) fun b6 =>
 chk (((!b1)&&b6)||(!((!b1)&&b6))) <|
 chk ((decide (2≤(p0.length:Int)))||(!((!b1)&&b6))) <|
 chk (((!b1)&&b6)||(!((!b1)&&b6))) <|
 chk (((DV N (AO p0 2 p0.length)).isSome)||(!((!b1)&&b6))) <|
 let r22:=(DV N (AO p0 2 p0.length)).getD default
 chk (!b1|| !!b1) <|
 chk ((bif b6 then((!b1)&&b6)else true)||(!!b1)) <|
 chk ((bif b6 then true else true)||(!!b1)) <|
 Af (bif b6 then r22 else false) fun b7 =>
 chk (!b1|| !!b1) <|
 Af (b7) fun b8 =>
 chk (((!b1)&&b8)||(!((!b1)&&b8))) <|
 chk (((Gz N p0 46).isSome)||(!((!b1)&&b8))) <|
 let r26:=(Gz N p0 46).getD default
 chk (((!b1)&&b8)||(!((!b1)&&b8))) <|
 chk (((!b1)&&b8)||(!((!b1)&&b8))) <|
 chk (!b1|| !!b1) <|
 chk ((bif b8 then((!b1)&&b8)else true)||(!!b1)) <|
 chk ((bif b8 then true else true)||(!!b1)) <|
 Af (bif b8 then decide ((r26.length:Int)>2)else false) fun b9 =>
 chk (bif b1 then true else !b1) <|
 chk (bif b1 then true else true) <|
 Af (bif b1 then true else b9) fun b10 =>
 some b10
abbrev Ad3:Type:=Bool
def Np (N:Nat) (p0:Bs):Option Ad3 :=
 chk (((p0.length:Int) != 8)||(!((p0.length:Int) != 8))) <|
 chk (((p0.length:Int) != 8)||(!((p0.length:Int) != 8))) <|
 chk (bif ((p0.length:Int) != 8)then((p0.length:Int) != 8)else true) <|
 chk (bif ((p0.length:Int) != 8)then true else true) <|
 let x14:Bool:=bif ((p0.length:Int) != 8)then((p0.length:Int) != 32)else false
 bif x14 then(some false)
 else(Ak (X:=Bool×Int) (Y:=Unit) (U2 fun t4a t5a k1 x2 =>
 let x20:Int:=i64.wrap ((8:Int)*(i64.wrap ((p0.length:Int).tdiv 2)))
 bif decide (t5a<x20)then(let x28:Int:=i64.wrap ((i64.wrap ((p0.length:Int).tdiv 2))+(i64.wrap (t5a.tdiv 8)))
 chk (decide (0≤x28)) <|
 chk (decide (x28<(p0.length:Int))) <|
 chk (decide (0≤i64.wrap ((7:Int) - (t5a.tmod 8)))) <|
 let x33:Int:=((p0.getD x28.toNat 0).toNat:Int).fdiv (2 ^ (min (i64.wrap ((7:Int) - (t5a.tmod 8))).toNat 8))
 Af ((x33.tmod 2)==1) fun b3 =>
 chk (bif b3 then b3 else true) <|
 chk (bif b3 then true else true) <|
 Af (bif b3 then t4a else false) fun b4 =>
 Af (b4) fun b5 =>
 chk (!b5|| !!b5) <|
 chk (!b5|| !!b5) <|
 Af (!((x33.tmod 2)==1)) fun b6 =>
 chk (((!b5)&&b6)||(!((!b5)&&b6))) <|
 chk (((!b5)&&b6)||(!((!b5)&&b6))) <|
 chk (((!b5)&&b6)||(!((!b5)&&b6))) <|
 chk ((decide (0≤i64.wrap (t5a.tdiv 8)))||(!((!b5)&&b6))) <|
 chk ((decide (i64.wrap (t5a.tdiv 8)<(p0.length:Int)))||(!((!b5)&&b6))) <|
 chk (((!b5)&&b6)||(!((!b5)&&b6))) <|
 chk (((!b5)&&b6)||(!((!b5)&&b6))) <|
 chk (((!b5)&&b6)||(!((!b5)&&b6))) <|
 chk (((!b5)&&b6)||(!((!b5)&&b6))) <|
 chk ((decide (0≤i64.wrap ((7:Int) - (t5a.tmod 8))))||(!((!b5)&&b6))) <|
 let x51:Int:=((p0.getD ((i64.wrap (t5a.tdiv 8)).toNat) 0).toNat:Int).fdiv (2 ^ (min (i64.wrap ((7:Int) - (t5a.tmod 8))).toNat 8))
 chk (((!b5)&&b6)||(!((!b5)&&b6))) <|
 chk (((!b5)&&b6)||(!((!b5)&&b6))) <|
 chk (!b5|| !!b5) <|
 chk ((bif b6 then((!b5)&&b6)else true)||(!!b5)) <|
 chk ((bif b6 then true else true)||(!!b5)) <|
 Af (bif b6 then((x51.tmod 2)==1)else false) fun b7 =>
 chk (bif b5 then true else !b5) <|
 chk (bif b5 then true else true) <|
 Af (bif b5 then true else b7) fun b8 =>
 bif b8 then(some false)
 else(chk (!t4a|| !!t4a) <|
 chk (bif t4a then true else !t4a) <|
 chk (bif t4a then true else true) <|
 k1 (bif t4a then true else !((x33.tmod 2)==1),i64.wrap (t5a+1))))
 else(x2 ()))
 N (false,0) (fun _ =>
 some true))
abbrev Aae:Type:=Bool
def JO (N:Nat) (p0:Bs):Option Aae :=
 chk ((!((p0.length:Int)==4))||(!(!((p0.length:Int)==4)))) <|
 chk ((!((p0.length:Int)==4))||(!(!((p0.length:Int)==4)))) <|
 chk (bif ((p0.length:Int)==4)then true else !((p0.length:Int)==4)) <|
 chk (bif ((p0.length:Int)==4)then true else true) <|
 let x10:Bool:=bif ((p0.length:Int)==4)then true else((p0.length:Int)==16)
 some x10
abbrev Z8:Type:=Int
def En (N:Nat) (p0:Yq1) (p1:Bool):Option Z8 :=
 CS (α :=Bool×Int×Bs×List Yq0) (fun j1 =>
 bif (p0.1==1)then(Af (p1) fun b2 =>
 chk (b2||(!b2)) <|
 chk (b2||(!b2)) <|
 chk (((Je N p0.2.1).isSome)||(!b2)) <|
 let r14:=(Je N p0.2.1).getD default
 chk (bif b2 then b2 else true) <|
 chk (bif b2 then true else true) <|
 Af (bif b2 then r14 else false) fun b3 =>
 Af (b3) fun b4 =>
 chk (!b4|| !!b4) <|
 chk (!b4|| !!b4) <|
 Af (!p1) fun b5 =>
 chk (((!b4)&&b5)||(!((!b4)&&b5))) <|
 chk (((!b4)&&b5)||(!((!b4)&&b5))) <|
 chk (((LZ N p0.2.1).isSome)||(!((!b4)&&b5))) <|
 let r22:=(LZ N p0.2.1).getD default
 chk (!b4|| !!b4) <|
 chk ((bif b5 then((!b4)&&b5)else true)||(!!b4)) <|
 chk ((bif b5 then true else true)||(!!b4)) <|
 Af (bif b5 then r22 else false) fun b6 =>
 chk (bif b4 then true else !b4) <|
 chk (bif b4 then true else true) <|
 Af (bif b4 then true else b6) fun b7 =>
 j1 (b7,p0.1,p0.2.1,p0.2.2))
 else(bif (p0.1==2)then(Af (p1) fun b8 =>
 chk (b8||(!b8)) <|
 chk (b8||(!b8)) <|
 chk (((PD N p0.2.1).isSome)||(!b8)) <|
 let r31:=(PD N p0.2.1).getD default
 chk (bif b8 then b8 else true) <|
 chk (bif b8 then true else true) <|
 Af (bif b8 then r31 else false) fun b9 =>
 Af (b9) fun b10 =>
 chk (!b10|| !!b10) <|
 chk (!b10|| !!b10) <|
 Af (!p1) fun b11 =>
 chk (((!b10)&&b11)||(!((!b10)&&b11))) <|
 chk (((!b10)&&b11)||(!((!b10)&&b11))) <|
 chk (((JP N p0.2.1).isSome)||(!((!b10)&&b11))) <|
 let r39:=(JP N p0.2.1).getD default
 chk (!b10|| !!b10) <|
 chk ((bif b11 then((!b10)&&b11)else true)||(!!b10)) <|
 chk ((bif b11 then true else true)||(!!b10)) <|
 Af (bif b11 then r39 else false) fun b12 =>
 chk (bif b10 then true else !b10) <|
 chk (bif b10 then true else true) <|
 Af (bif b10 then true else b12) fun b13 =>
 j1 (b13,p0.1,p0.2.1,p0.2.2))
 else(bif (p0.1==7)then(Af (p1) fun b14 =>
 chk (b14||(!b14)) <|
 chk (b14||(!b14)) <|
 chk (((Np N p0.2.1).isSome)||(!b14)) <|
 let r48:=(Np N p0.2.1).getD default
 chk (bif b14 then b14 else true) <|
 chk (bif b14 then true else true) <|
 Af (bif b14 then r48 else false) fun b15 =>
 Af (b15) fun b16 =>
 chk (!b16|| !!b16) <|
 chk (!b16|| !!b16) <|
 Af (!p1) fun b17 =>
 chk (((!b16)&&b17)||(!((!b16)&&b17))) <|
 chk (((!b16)&&b17)||(!((!b16)&&b17))) <|
 chk (((JO N p0.2.1).isSome)||(!((!b16)&&b17))) <|
 let r56:=(JO N p0.2.1).getD default
 chk (!b16|| !!b16) <|
 chk ((bif b17 then((!b16)&&b17)else true)||(!!b16)) <|
 chk ((bif b17 then true else true)||(!!b16)) <|
 Af (bif b17 then r56 else false) fun b18 =>
 chk (bif b16 then true else !b16) <|
 chk (bif b16 then true else true) <|
 Af (bif b16 then true else b18) fun b19 =>
 j1 (b19,p0.1,p0.2.1,p0.2.2))
 else(bif (p0.1==4)then(bif !(p0.2.1==([]:Bs))then(some 14)
 else(Ad (ED N p0.2.2) fun r66 =>
 some r66))
 else(j1 (false,p0.1,p0.2.1,p0.2.2))))))
 (U4 fun t5a b33280_0a b33280_1a b33280_2a =>
 chk ((!!t5a)||(!(!!t5a))) <|
 chk ((!!t5a)||(!(!!t5a))) <|
 chk ((!!t5a)||(!(!!t5a))) <|
 chk ((!!t5a)||(!(!!t5a))) <|
 chk (bif !t5a then true else !(!t5a)) <|
 chk (bif !t5a then true else true) <|
 bif bif !t5a then true else decide ((b33280_2a.length:Int)>0)then(some 14)
 else(some 0))
abbrev kZ:Type:=Int
def He (N:Nat) (p0:List Yq1):Option kZ :=
 bif decide ((p0.length:Int)>16)then(some 2)
 else(Ak (X:=Int) (Y:=Unit) (fun t11a k1 x2 =>
 bif decide (t11a<(p0.length:Int))then(chk (decide (0≤t11a)) <|
 chk (decide (t11a<(p0.length:Int))) <|
 Ad (En N (p0.getD t11a.toNat (0,([]:Bs),([]:List Yq0))) false) fun r16 =>
 bif (r16 != 0)then(some r16)
 else(k1 (i64.wrap (t11a+1))))
 else(x2 ()))
 N 0 (fun _ =>
 some 0))
abbrev dX:Type:=Int
def D5 (N:Nat) (p0:List Yq2):Option dX :=
 bif decide ((p0.length:Int)>4)then(some 2)
 else(Ak (X:=Int) (Y:=Unit) (fun t12a k1 x2 =>
 bif decide (t12a<(p0.length:Int))then(chk (decide (0≤t12a)) <|
 chk (decide (t12a<(p0.length:Int))) <|
 let x18:Int:=(((p0.getD t12a.toNat (([]:List Yq1),0,false,([]:List Yq0))).1).length:Int)
 Af (x18==0) fun b3 =>
 chk (b3||(!b3)) <|
 let x22:Bool:=(p0.getD t12a.toNat (([]:List Yq1),0,false,([]:List Yq0))).2.2.1
 chk (b3||(!b3)) <|
 chk (bif b3 then b3 else true) <|
 chk (bif b3 then true else true) <|
 Af (bif b3 then !x22 else false) fun b4 =>
 Af (b4) fun b5 =>
 chk (!b5|| !!b5) <|
 let x27:Bool:=(p0.getD t12a.toNat (([]:List Yq1),0,false,([]:List Yq0))).2.2.1
 chk (!b5|| !!b5) <|
 chk (!b5|| !!b5) <|
 Af (!x27) fun b6 =>
 chk (((!b5)&&b6)||(!((!b5)&&b6))) <|
 chk (((!b5)&&b6)||(!((!b5)&&b6))) <|
 chk (((!b5)&&b6)||(!((!b5)&&b6))) <|
 let x33:Int:=(((p0.getD t12a.toNat (([]:List Yq1),0,false,([]:List Yq0))).2.2.2).length:Int)
 chk (((!b5)&&b6)||(!((!b5)&&b6))) <|
 chk (!b5|| !!b5) <|
 chk ((bif b6 then((!b5)&&b6)else true)||(!!b5)) <|
 chk ((bif b6 then true else true)||(!!b5)) <|
 Af (bif b6 then decide (x33>0)else false) fun b7 =>
 chk (bif b5 then true else !b5) <|
 chk (bif b5 then true else true) <|
 Af (bif b5 then true else b7) fun b8 =>
 bif b8 then(some 7)
 else(let x39:Int:=BP .andNot .i64 ((p0.getD t12a.toNat (([]:List Yq1),0,false,([]:List Yq0))).2.1) 510
 bif (x39 != 0)then(some 1)
 else(Ad (He N ((p0.getD t12a.toNat (([]:List Yq1),0,false,([]:List Yq0))).1)) fun r43 =>
 bif (r43 != 0)then(some r43)
 else(let x48:Bool:=(p0.getD t12a.toNat (([]:List Yq1),0,false,([]:List Yq0))).2.2.1
 bif x48 then(let x52:Int:=(((p0.getD t12a.toNat (([]:List Yq1),0,false,([]:List Yq0))).2.2.2).length:Int)
 bif (x52==0)then(some 14)
 else(Ad (ED N ((p0.getD t12a.toNat (([]:List Yq1),0,false,([]:List Yq0))).2.2.2)) fun r56 =>
 bif (r56 != 0)then(some r56)
 else(k1 (i64.wrap (t12a+1)))))
 else(k1 (i64.wrap (t12a+1)))))))
 else(x2 ()))
 N 0 (fun _ =>
 some 0))
abbrev AdF:Type:=List Bs
def QO (N:Nat):Option AdF :=
 some ([([50,46,53,46,50,57,46,49,57]:Bs),([50,46,53,46,50,57,46,49,53]:Bs),([50,46,53,46,50,57,46,51,55]:Bs),([50,46,53,46,50,57,46,51,50]:Bs),([50,46,53,46,50,57,46,51,51]:Bs),([50,46,53,46,50,57,46,51,54]:Bs),([50,46,53,46,50,57,46,53,52]:Bs),([50,46,53,46,50,57,46,49,55]:Bs),([50,46,53,46,50,57,46,51,48]:Bs),([50,46,53,46,50,57,46,49,52]:Bs),([50,46,53,46,50,57,46,51,53]:Bs),([50,46,53,46,50,57,46,51,49]:Bs),([50,46,53,46,50,57,46,52,54]:Bs)]:List Bs)
abbrev AdD:Type:=Bool
def QN (N:Nat) (p0:Bs):Option AdD :=
 Ad (QO N) fun r5 =>
 Ak (X:=Int) (Y:=Unit) (fun t7a k1 x2 =>
 bif decide (t7a<(r5.length:Int))then(chk (decide (0≤t7a)) <|
 chk (decide (t7a<(r5.length:Int))) <|
 bif ((r5.getD t7a.toNat ([]:Bs))==p0)then(some true)
 else(k1 (i64.wrap (t7a+1))))
 else(x2 ()))
 N 0 (fun _ =>
 some false)
abbrev AfX:Type:=Bool
def F8 (N:Nat) (p0:Int):Option AfX :=
 chk ((decide (p0≥((-1):Int)))||(!(decide (p0≥((-1):Int))))) <|
 chk (bif decide (p0≥((-1):Int))then decide (p0≥((-1):Int))else true) <|
 chk (bif decide (p0≥((-1):Int))then true else true) <|
 let x8:Bool:=bif decide (p0≥((-1):Int))then decide (p0≤64)else false
 some x8
abbrev pO:Type:=Int
def Ij (N:Nat) (p0:List Bs) (p1:Int):Option pO :=
 bif decide ((p0.length:Int)>p1)then(some 2)
 else(Ak (X:=Int) (Y:=Unit) (fun t14a k1 x2 =>
 bif decide (t14a<(p0.length:Int))then(chk (decide (0≤t14a)) <|
 chk (decide (t14a<(p0.length:Int))) <|
 Ad (Dz N (p0.getD t14a.toNat ([]:Bs))) fun r20 =>
 bif !r20 then(some 11)
 else(Ak (X:=Int) (Y:=Unit) (fun t7b k3 x4 =>
 bif decide (t7b<t14a)then(chk (decide (0≤t7b)) <|
 chk (decide (t7b<(p0.length:Int))) <|
 bif ((p0.getD t7b.toNat ([]:Bs))==(p0.getD t14a.toNat ([]:Bs)))then(some 10)
 else(k3 (i64.wrap (t7b+1))))
 else(x4 ()))
 N 0 (fun _ =>
 k1 (i64.wrap (t14a+1)))))
 else(x2 ()))
 N 0 (fun _ =>
 some 0))
abbrev Yv:Type:=Int
def Hq (N:Nat) (p0:List (Bs×Bs)):Option Yv :=
 bif decide ((p0.length:Int)>8)then(some 2)
 else(Ak (X:=Int) (Y:=Unit) (fun t11a k1 x2 =>
 bif decide (t11a<(p0.length:Int))then(chk (decide (0≤t11a)) <|
 chk (decide (t11a<(p0.length:Int))) <|
 Ad (Dz N ((p0.getD t11a.toNat (([]:Bs),([]:Bs))).1)) fun r18 =>
 chk ((!!r18)||(!(!!r18))) <|
 chk ((!!r18)||(!(!!r18))) <|
 chk (((Dz N ((p0.getD t11a.toNat (([]:Bs),([]:Bs))).2)).isSome)||(!(!!r18))) <|
 let r23:=(Dz N ((p0.getD t11a.toNat (([]:Bs),([]:Bs))).2)).getD default
 chk ((!!r18)||(!(!!r18))) <|
 chk (bif !r18 then true else !(!r18)) <|
 chk (bif !r18 then true else true) <|
 bif bif !r18 then true else !r23 then(some 11)
 else(Ak (X:=Int×Bs×Bs) (Y:=Unit) (U3 fun t5b b33792_0b b33792_1b k3 x4 =>
 bif decide (t5b<t11a)then(chk (decide (0≤t5b)) <|
 chk (decide (t5b<(p0.length:Int))) <|
 let x36:Bool:=((((p0.getD t5b.toNat (([]:Bs),([]:Bs))).1)==b33792_0b)&&((((p0.getD t5b.toNat (([]:Bs),([]:Bs))).2)==b33792_1b)&&true))
 bif x36 then(some 10)
 else(k3 (i64.wrap (t5b+1),b33792_0b,b33792_1b)))
 else(x4 ()))
 N (0,(p0.getD t11a.toNat (([]:Bs),([]:Bs))).1,(p0.getD t11a.toNat (([]:Bs),([]:Bs))).2) (fun _ =>
 k1 (i64.wrap (t11a+1)))))
 else(x2 ()))
 N 0 (fun _ =>
 some 0))
abbrev Yi:Type:=Int
def D7 (N:Nat) (p0:Yq6):Option Yi :=
 chk (((p0.1.length:Int)==0)||(!((p0.1.length:Int)==0))) <|
 chk (((p0.1.length:Int)==0)||(!((p0.1.length:Int)==0))) <|
 chk (((p0.1.length:Int)==0)||(!((p0.1.length:Int)==0))) <|
 chk (bif ((p0.1.length:Int)==0)then((p0.1.length:Int)==0)else true) <|
 chk (bif ((p0.1.length:Int)==0)then true else true) <|
 let x15:Bool:=bif ((p0.1.length:Int)==0)then((p0.2.length:Int)==0)else false
 bif x15 then(some 7)
 else(chk ((!(decide ((p0.1.length:Int)>16)))||(!(!(decide ((p0.1.length:Int)>16))))) <|
 chk ((!(decide ((p0.1.length:Int)>16)))||(!(!(decide ((p0.1.length:Int)>16))))) <|
 chk ((!(decide ((p0.1.length:Int)>16)))||(!(!(decide ((p0.1.length:Int)>16))))) <|
 chk (bif decide ((p0.1.length:Int)>16)then true else !(decide ((p0.1.length:Int)>16))) <|
 chk (bif decide ((p0.1.length:Int)>16)then true else true) <|
 let x25:Bool:=bif decide ((p0.1.length:Int)>16)then true else decide ((p0.2.length:Int)>16)
 bif x25 then(some 2)
 else(chk (decide (p0.1.length*49≤140737488355328)) <|
 chk (decide ((p0.1.length+p0.2.length)*49≤140737488355328)) <|
 Ak (X:=Int×List Yq1) (Y:=Unit) (U2 fun t33a l40704a k1 x2 =>
 bif decide (t33a<((p0.1++p0.2).length:Int))then(chk (decide (0≤t33a)) <|
 chk (decide (t33a<(l40704a.length:Int))) <|
 chk (decide (t33a.toNat<l40704a.length)) <|
 Ad (En N (l40704a.getD t33a.toNat (0,([]:Bs),([]:List Yq0))) true) fun r38 =>
 bif (r38 != 0)then(some r38)
 else(k1 (i64.wrap (t33a+1),l40704a)))
 else(x2 ()))
 N (0,p0.1++p0.2) (fun _ =>
 some 0)))
abbrev AdA:Type:=Int
def Nr (N:Nat) (p0:Yq4):Option AdA :=
 chk ((!(decide (p0.2.2.2.2.2.2.2.1≥0)))||(!(!(decide (p0.2.2.2.2.2.2.2.1≥0))))) <|
 chk ((!(decide (p0.2.2.2.2.2.2.2.1≥0)))||(!(!(decide (p0.2.2.2.2.2.2.2.1≥0))))) <|
 chk (bif decide (p0.2.2.2.2.2.2.2.1≥0)then true else !(decide (p0.2.2.2.2.2.2.2.1≥0))) <|
 chk (bif decide (p0.2.2.2.2.2.2.2.1≥0)then true else true) <|
 let x33:Bool:=bif decide (p0.2.2.2.2.2.2.2.1≥0)then true else decide (p0.2.2.2.2.2.2.2.2.1≥0)
 let x52:Bool:=decide ((p0.2.2.2.2.2.2.2.2.2.2.2.2.2.2.2.2.1.length:Int)>0)
 let x56:Bool:=decide ((p0.2.2.2.2.2.2.2.2.2.2.2.2.2.2.2.2.2.1.length:Int)>0)
 Ak (X:=Int×Int×List Bool) (Y:=Int) (U3 fun t3a t59a l47360a k1 x2 =>
 bif decide (t59a<13)then(chk (decide (0≤t59a)) <|
 chk (decide (t59a<(l47360a.length:Int))) <|
 chk (decide (t59a.toNat<l47360a.length)) <|
 bif (l47360a.getD t59a.toNat false)then(k1 (i64.wrap (t3a+1),i64.wrap (t59a+1),l47360a))
 else(k1 (t3a,i64.wrap (t59a+1),l47360a)))
 else(x2 t3a))
 N ((p0.2.2.2.2.2.2.2.2.2.2.2.2.2.2.2.2.2.2.length:Int),0,([p0.1,(p0.2.2.2.1 != 0),decide ((p0.2.2.2.2.1.length:Int)>0),decide ((p0.2.2.2.2.2.1.length:Int)>0),decide ((p0.2.2.2.2.2.2.1.length:Int)>0),x33,decide (p0.2.2.2.2.2.2.2.2.2.1≥0),decide ((p0.2.2.2.2.2.2.2.2.2.2.1.length:Int)>0),p0.2.2.2.2.2.2.2.2.2.2.2.1,!(p0.2.2.2.2.2.2.2.2.2.2.2.2.2.2.1==([]:Bs)),!(p0.2.2.2.2.2.2.2.2.2.2.2.2.2.2.2.1==([]:Bs)),x52,x56]:List Bool)) (fun t3b =>
 some t3b)
abbrev AfV:Type:=(Bs×Bool×Bs)×Bool
def TK (N:Nat) (p0:Yq3) (p1:Bs):Option AfV :=
 Ak (X:=Int) (Y:=Unit) (fun t10a k1 x2 =>
 bif decide (t10a<(p0.length:Int))then(chk (decide (0≤t10a)) <|
 chk (decide (t10a<(p0.length:Int))) <|
 bif (((p0.getD t10a.toNat (([]:Bs),false,([]:Bs))).1)==p1)then(some ((p0.getD t10a.toNat (([]:Bs),false,([]:Bs))),true))
 else(k1 (i64.wrap (t10a+1))))
 else(x2 ()))
 N 0 (fun _ =>
 some ((([]:Bs),false,([]:Bs)),false))
abbrev AfH:Type:=(Int×Bs×Bs)×Bs×Int
def P7 (N:Nat) (p0:Bs):Option AfH :=
 bif ((p0.length:Int)==0)then(some ((0,([]:Bs),([]:Bs)),([]:Bs),3))
 else(chk (decide (0<(p0.length:Int))) <|
 bif ((((p0.getD 0 0).toNat:Int).tmod 32)==31)then(some ((0,([]:Bs),([]:Bs)),([]:Bs),5))
 else(bif ((p0.length:Int)==1)then(some ((0,([]:Bs),([]:Bs)),([]:Bs),3))
 else(chk (decide (1<(p0.length:Int))) <|
 chk ((!((i64.wrap ((p0.getD 1 0).toNat:Int))==128))||(!(!((i64.wrap ((p0.getD 1 0).toNat:Int))==128)))) <|
 chk (bif ((i64.wrap ((p0.getD 1 0).toNat:Int))==128)then true else !((i64.wrap ((p0.getD 1 0).toNat:Int))==128)) <|
 chk (bif ((i64.wrap ((p0.getD 1 0).toNat:Int))==128)then true else true) <|
 let x33:Bool:=bif ((i64.wrap ((p0.getD 1 0).toNat:Int))==128)then true else decide ((i64.wrap ((p0.getD 1 0).toNat:Int))>131)
 bif x33 then(some ((0,([]:Bs),([]:Bs)),([]:Bs),6))
 else(CS (α :=Int×Int) (fun j1 =>
 bif decide ((i64.wrap ((p0.getD 1 0).toNat:Int))>128)then(let x38:Int:=i64.wrap ((i64.wrap ((p0.getD 1 0).toNat:Int)) - 128)
 bif decide ((p0.length:Int)<(i64.wrap ((2:Int)+x38)))then(some ((0,([]:Bs),([]:Bs)),([]:Bs),3))
 else(Ak (X:=Int×Int) (Y:=Int) (U2 fun t6b t9b k2 x3 =>
 bif decide (t9b<x38)then(chk (decide (0≤i64.wrap ((2:Int)+t9b))) <|
 chk (decide (i64.wrap ((2:Int)+t9b)<(p0.length:Int))) <|
 let x56:Int:=i64.wrap ((p0.getD ((i64.wrap ((2:Int)+t9b)).toNat) 0).toNat:Int)
 k2 (i64.wrap ((i64.wrap ((256:Int)*t6b))+x56),i64.wrap (t9b+1)))
 else(x3 t6b))
 N (0,0) (fun t6c =>
 chk (decide (0≤x38)) <|
 chk (decide (x38<4)) <|
 chk (decide (x38.toNat<4)) <|
 chk ((!(decide (t6c<(([0,128,256,65536]:List Int).getD x38.toNat 0))))||(!(!(decide (t6c<(([0,128,256,65536]:List Int).getD x38.toNat 0)))))) <|
 chk (bif decide (t6c<(([0,128,256,65536]:List Int).getD x38.toNat 0))then true else !(decide (t6c<(([0,128,256,65536]:List Int).getD x38.toNat 0)))) <|
 chk (bif decide (t6c<(([0,128,256,65536]:List Int).getD x38.toNat 0))then true else true) <|
 let x70:Bool:=bif decide (t6c<(([0,128,256,65536]:List Int).getD x38.toNat 0))then true else decide (t6c>131072)
 bif x70 then(some ((0,([]:Bs),([]:Bs)),([]:Bs),6))
 else(j1 (t6c,i64.wrap ((2:Int)+x38))))))
 else(j1 (i64.wrap ((p0.getD 1 0).toNat:Int),2)))
 (U2 fun t6a t7a =>
 bif decide ((i64.wrap ((p0.length:Int) - t7a))<t6a)then(some ((0,([]:Bs),([]:Bs)),([]:Bs),3))
 else(chk (decide (0<(p0.length:Int))) <|
 chk (decide (0≤t7a)) <|
 chk (decide (t7a≤i64.wrap (t7a+t6a))) <|
 chk (decide (i64.wrap (t7a+t6a)≤(p0.length:Int))) <|
 chk (decide (0≤i64.wrap (t7a+t6a))) <|
 chk (decide (i64.wrap (t7a+t6a)≤(p0.length:Int))) <|
 chk (decide (0≤i64.wrap (t7a+t6a))) <|
 chk (decide (i64.wrap (t7a+t6a)≤(p0.length:Int))) <|
 some ((i64.wrap ((p0.getD 0 0).toNat:Int),AO p0 t7a.toNat ((i64.wrap (t7a+t6a)).toNat),AO p0 0 ((i64.wrap (t7a+t6a)).toNat)),AO p0 ((i64.wrap (t7a+t6a)).toNat) p0.length,0)))))))
abbrev AgQ:Type:=(Int×Bs×Bs)×Int
def VS (N:Nat) (p0:Bs):Option AgQ :=
 Ad (P7 N p0) fun r9 =>
 bif (r9.2.2 != 0)then(some ((0,([]:Bs),([]:Bs)),r9.2.2))
 else(bif decide ((r9.2.1.length:Int)>0)then(some ((0,([]:Bs),([]:Bs)),4))
 else(some (r9.1,0)))
abbrev SB:Type:=Int
def GY (N:Nat) (F:(Int×Bs×Bs)→Int→Option SB) (p0:Int×Bs×Bs) (p1:Int):Option SB :=
 bif (((i64.wrap (p0.1.tdiv 32)).tmod 2)==0)then(some 0)
 else(Ak (X:=Bs) (Y:=Unit) (fun t5a k1 x2 =>
 bif decide ((t5a.length:Int)>0)then(Ad (P7 N t5a) fun r22 =>
 bif (r22.2.2 != 0)then(some r22.2.2)
 else(bif decide ((i64.wrap (p1+1))≥16)then(some 8)
 else(Ad (F r22.1 (i64.wrap (p1+1))) fun r35 =>
 bif (r35 != 0)then(some r35)
 else(k1 r22.2.1))))
 else(x2 ()))
 N p0.2.1 (fun _ =>
 some 0))
def IB (N:Nat):Nat→(Int×Bs×Bs)→Int→Option SB
  | 0=>fun p0 p1=>none
  | n+1=>fun p0 p1=>GY N (IB N n) p0 p1
abbrev Adr:Type:=Int
def QJ (N:Nat) (p0:Bs):Option Adr :=
 Ad (VS N p0) fun r7 =>
 bif (r7.2 != 0)then(some r7.2)
 else(Ad (IB N N r7.1 0) fun r14 =>
 some r14)
abbrev pK:Type:=Int
def FY (N:Nat) (p0:Yq4):Option pK :=
 Af (p0.2.1) fun b1 =>
 chk (b1||(!b1)) <|
 chk (b1||(!b1)) <|
 chk (bif b1 then b1 else true) <|
 chk (bif b1 then true else true) <|
 Af (bif b1 then !p0.1 else false) fun b2 =>
 Af (b2) fun b3 =>
 chk (!b3|| !!b3) <|
 chk (!b3|| !!b3) <|
 chk (!b3|| !!b3) <|
 Af (p0.2.2.1 != ((-1):Int)) fun b4 =>
 chk (((!b3)&&b4)||(!((!b3)&&b4))) <|
 chk (((!b3)&&b4)||(!((!b3)&&b4))) <|
 chk (!b3|| !!b3) <|
 chk ((bif b4 then((!b3)&&b4)else true)||(!!b3)) <|
 chk ((bif b4 then true else true)||(!!b3)) <|
 Af (bif b4 then !p0.2.1 else false) fun b5 =>
 chk (bif b3 then true else !b3) <|
 chk (bif b3 then true else true) <|
 Af (bif b3 then true else b5) fun b6 =>
 bif b6 then(some 7)
 else(Ad (F8 N p0.2.2.1) fun r34 =>
 Af (!r34) fun b7 =>
 chk (!b7|| !!b7) <|
 chk (!b7|| !!b7) <|
 chk (((F8 N p0.2.2.2.2.2.2.2.1).isSome)||(!!b7)) <|
 let r39:=(F8 N p0.2.2.2.2.2.2.2.1).getD default
 chk (!b7|| !!b7) <|
 chk (bif b7 then true else !b7) <|
 chk (bif b7 then true else true) <|
 Af (bif b7 then true else !r39) fun b8 =>
 Af (b8) fun b9 =>
 chk (!b9|| !!b9) <|
 chk (!b9|| !!b9) <|
 chk (((F8 N p0.2.2.2.2.2.2.2.2.1).isSome)||(!!b9)) <|
 let r45:=(F8 N p0.2.2.2.2.2.2.2.2.1).getD default
 chk (!b9|| !!b9) <|
 chk (bif b9 then true else !b9) <|
 chk (bif b9 then true else true) <|
 Af (bif b9 then true else !r45) fun b10 =>
 Af (b10) fun b11 =>
 chk (!b11|| !!b11) <|
 chk (!b11|| !!b11) <|
 chk (((F8 N p0.2.2.2.2.2.2.2.2.2.1).isSome)||(!!b11)) <|
 let r51:=(F8 N p0.2.2.2.2.2.2.2.2.2.1).getD default
 chk (!b11|| !!b11) <|
 chk (bif b11 then true else !b11) <|
 chk (bif b11 then true else true) <|
 Af (bif b11 then true else !r51) fun b12 =>
 Af (b12) fun b13 =>
 chk (!b13|| !!b13) <|
 chk (!b13|| !!b13) <|
 chk (bif b13 then true else !b13) <|
 chk (bif b13 then true else true) <|
 Af (bif b13 then true else decide (p0.2.2.2.1<0)) fun b14 =>
 Af (b14) fun b15 =>
 chk (!b15|| !!b15) <|
 chk (!b15|| !!b15) <|
 chk (bif b15 then true else !b15) <|
 chk (bif b15 then true else true) <|
 Af (bif b15 then true else decide (p0.2.2.2.1>511)) fun b16 =>
 bif b16 then(some 1)
 else(Ad (Ij N p0.2.2.2.2.1 8) fun r66 =>
 bif (r66 != 0)then(some r66)
 else(Ad (Ij N p0.2.2.2.2.2.1 8) fun r72 =>
 bif (r72 != 0)then(some r72)
 else(Ad (Hq N p0.2.2.2.2.2.2.1) fun r78 =>
 bif (r78 != 0)then(some r78)
 else(Ad (He N p0.2.2.2.2.2.2.2.2.2.2.1) fun r84 =>
 bif (r84 != 0)then(some r84)
 else(CS (α :=Bool×Bool×Int×Int×List Bs×List Bs×(List (Bs×Bs))×Int×Int×Int×List Yq1×Bool×List Yq1×List Yq1×Bs×Bs×List Yq2×List Yq2×List (Bs×Bool×Bs)) (fun j17 =>
 bif p0.2.2.2.2.2.2.2.2.2.2.2.1 then(Ad (D7 N (p0.2.2.2.2.2.2.2.2.2.2.2.2.1,p0.2.2.2.2.2.2.2.2.2.2.2.2.2.1)) fun r92 =>
 bif (r92 != 0)then(some r92)
 else(j17 (p0.1,p0.2.1,p0.2.2.1,p0.2.2.2.1,p0.2.2.2.2.1,p0.2.2.2.2.2.1,p0.2.2.2.2.2.2.1,p0.2.2.2.2.2.2.2.1,p0.2.2.2.2.2.2.2.2.1,p0.2.2.2.2.2.2.2.2.2.1,p0.2.2.2.2.2.2.2.2.2.2.1,p0.2.2.2.2.2.2.2.2.2.2.2.1,p0.2.2.2.2.2.2.2.2.2.2.2.2.1,p0.2.2.2.2.2.2.2.2.2.2.2.2.2.1,p0.2.2.2.2.2.2.2.2.2.2.2.2.2.2.1,p0.2.2.2.2.2.2.2.2.2.2.2.2.2.2.2.1,p0.2.2.2.2.2.2.2.2.2.2.2.2.2.2.2.2.1,p0.2.2.2.2.2.2.2.2.2.2.2.2.2.2.2.2.2.1,p0.2.2.2.2.2.2.2.2.2.2.2.2.2.2.2.2.2.2)))
 else(chk ((!(decide ((p0.2.2.2.2.2.2.2.2.2.2.2.2.1.length:Int)>0)))||(!(!(decide ((p0.2.2.2.2.2.2.2.2.2.2.2.2.1.length:Int)>0))))) <|
 chk ((!(decide ((p0.2.2.2.2.2.2.2.2.2.2.2.2.1.length:Int)>0)))||(!(!(decide ((p0.2.2.2.2.2.2.2.2.2.2.2.2.1.length:Int)>0))))) <|
 chk ((!(decide ((p0.2.2.2.2.2.2.2.2.2.2.2.2.1.length:Int)>0)))||(!(!(decide ((p0.2.2.2.2.2.2.2.2.2.2.2.2.1.length:Int)>0))))) <|
 chk ((!(decide ((p0.2.2.2.2.2.2.2.2.2.2.2.2.1.length:Int)>0)))||(!(!(decide ((p0.2.2.2.2.2.2.2.2.2.2.2.2.1.length:Int)>0))))) <|
 chk (bif decide ((p0.2.2.2.2.2.2.2.2.2.2.2.2.1.length:Int)>0)then true else !(decide ((p0.2.2.2.2.2.2.2.2.2.2.2.2.1.length:Int)>0))) <|
 chk (bif decide ((p0.2.2.2.2.2.2.2.2.2.2.2.2.1.length:Int)>0)then true else true) <|
 let x107:Bool:=bif decide ((p0.2.2.2.2.2.2.2.2.2.2.2.2.1.length:Int)>0)then true else decide ((p0.2.2.2.2.2.2.2.2.2.2.2.2.2.1.length:Int)>0)
 bif x107 then(some 7)
 else(j17 (p0.1,p0.2.1,p0.2.2.1,p0.2.2.2.1,p0.2.2.2.2.1,p0.2.2.2.2.2.1,p0.2.2.2.2.2.2.1,p0.2.2.2.2.2.2.2.1,p0.2.2.2.2.2.2.2.2.1,p0.2.2.2.2.2.2.2.2.2.1,p0.2.2.2.2.2.2.2.2.2.2.1,p0.2.2.2.2.2.2.2.2.2.2.2.1,p0.2.2.2.2.2.2.2.2.2.2.2.2.1,p0.2.2.2.2.2.2.2.2.2.2.2.2.2.1,p0.2.2.2.2.2.2.2.2.2.2.2.2.2.2.1,p0.2.2.2.2.2.2.2.2.2.2.2.2.2.2.2.1,p0.2.2.2.2.2.2.2.2.2.2.2.2.2.2.2.2.1,p0.2.2.2.2.2.2.2.2.2.2.2.2.2.2.2.2.2.1,p0.2.2.2.2.2.2.2.2.2.2.2.2.2.2.2.2.2.2))))
 (U19 fun b33024_0a b33024_1a b33024_2a b33024_3a b33024_4a b33024_5a b33024_6a b33024_7a b33024_8a b33024_9a b33024_10a b33024_11a b33024_12a b33024_13a b33024_14a b33024_15a b33024_16a b33024_17a b33024_18a =>
 chk ((!(decide ((b33024_14a.length:Int)>32)))||(!(!(decide ((b33024_14a.length:Int)>32))))) <|
 chk ((!(decide ((b33024_14a.length:Int)>32)))||(!(!(decide ((b33024_14a.length:Int)>32))))) <|
 chk ((!(decide ((b33024_14a.length:Int)>32)))||(!(!(decide ((b33024_14a.length:Int)>32))))) <|
 chk (bif decide ((b33024_14a.length:Int)>32)then true else !(decide ((b33024_14a.length:Int)>32))) <|
 chk (bif decide ((b33024_14a.length:Int)>32)then true else true) <|
 let x117:Bool:=bif decide ((b33024_14a.length:Int)>32)then true else decide ((b33024_15a.length:Int)>32)
 bif x117 then(some 2)
 else(Ad (D5 N b33024_16a) fun r120 =>
 bif (r120 != 0)then(some r120)
 else(Ad (D5 N b33024_17a) fun r126 =>
 bif (r126 != 0)then(some r126)
 else(Ad (Nr N (b33024_0a,b33024_1a,b33024_2a,b33024_3a,b33024_4a,b33024_5a,b33024_6a,b33024_7a,b33024_8a,b33024_9a,b33024_10a,b33024_11a,b33024_12a,b33024_13a,b33024_14a,b33024_15a,b33024_16a,b33024_17a,b33024_18a)) fun r131 =>
 bif decide (r131>24)then(some 2)
 else(Ak (X:=Int×Bool×Bool×Int×Int×List Bs×List Bs×(List (Bs×Bs))×Int×Int×Int×List Yq1×Bool×List Yq1×List Yq1×Bs×Bs×List Yq2×List Yq2×List (Bs×Bool×Bs)) (Y:=Unit) (U20 fun t136b b33024_0b b33024_1b b33024_2b b33024_3b b33024_4b b33024_5b b33024_6b b33024_7b b33024_8b b33024_9b b33024_10b b33024_11b b33024_12b b33024_13b b33024_14b b33024_15b b33024_16b b33024_17b b33024_18b k18 x19 =>
 bif decide (t136b<(b33024_18a.length:Int))then(chk (decide (0≤t136b)) <|
 chk (decide (t136b<(b33024_18a.length:Int))) <|
 Ad (Dz N ((b33024_18a.getD t136b.toNat (([]:Bs),false,([]:Bs))).1)) fun r143 =>
 bif !r143 then(some 11)
 else(Ad (QN N ((b33024_18a.getD t136b.toNat (([]:Bs),false,([]:Bs))).1)) fun r147 =>
 bif r147 then(some 20)
 else(chk (decide (0≤t136b)) <|
 chk (decide (t136b≤(b33024_18b.length:Int))) <|
 Ad (TK N (AO b33024_18b 0 t136b.toNat) ((b33024_18a.getD t136b.toNat (([]:Bs),false,([]:Bs))).1)) fun r155 =>
 bif r155.2 then(some 10)
 else(Ad (QJ N ((b33024_18a.getD t136b.toNat (([]:Bs),false,([]:Bs))).2.2)) fun r161 =>
 bif (r161 != 0)then(some r161)
 else(k18 (i64.wrap (t136b+1),b33024_0b,b33024_1b,b33024_2b,b33024_3b,b33024_4b,b33024_5b,b33024_6b,b33024_7b,b33024_8b,b33024_9b,b33024_10b,b33024_11b,b33024_12b,b33024_13b,b33024_14b,b33024_15b,b33024_16b,b33024_17b,b33024_18b))))))
 else(x19 ()))
 N (0,b33024_0a,b33024_1a,b33024_2a,b33024_3a,b33024_4a,b33024_5a,b33024_6a,b33024_7a,b33024_8a,b33024_9a,b33024_10a,b33024_11a,b33024_12a,b33024_13a,b33024_14a,b33024_15a,b33024_16a,b33024_17a,b33024_18a) (fun _ =>
 some 0))))))))))))
abbrev AfJ:Type:=Bs×Int
def P8 (N:Nat) (p0:Int) (p1:List Bs):Option AfJ :=
 chk ((!(decide (p0<0)))||(!(!(decide (p0<0))))) <|
 chk (bif decide (p0<0)then true else !(decide (p0<0))) <|
 chk (bif decide (p0<0)then true else true) <|
 chk ((!(bif decide (p0<0)then true else decide (p0>255)))||(!(!(bif decide (p0<0)then true else decide (p0>255))))) <|
 chk ((!(bif decide (p0<0)then true else decide (p0>255)))||(!(!(bif decide (p0<0)then true else decide (p0>255))))) <|
 chk (bif bif decide (p0<0)then true else decide (p0>255)then true else !(bif decide (p0<0)then true else decide (p0>255))) <|
 chk (bif bif decide (p0<0)then true else decide (p0>255)then true else true) <|
 let x21:Bool:=bif bif decide (p0<0)then true else decide (p0>255)then true else((p0.tmod 32)==31)
 bif x21 then(some (([]:Bs),5))
 else(Ak (X:=Bs×Int) (Y:=Bs) (U2 fun t6a t24a k1 x2 =>
 bif decide (t24a<(p1.length:Int))then(chk (decide (0≤t24a)) <|
 chk (decide (t24a<(p1.length:Int))) <|
 chk (decide (t6a.length+(p1.getD t24a.toNat ([]:Bs)).length≤140737488355328)) <|
 k1 (t6a++(p1.getD t24a.toNat ([]:Bs)),i64.wrap (t24a+1)))
 else(x2 t6a))
 N (([]:Bs),0) (fun t6b =>
 bif decide ((t6b.length:Int)>131072)then(some (([]:Bs),6))
 else(CS (α :=List Int) (fun j3 =>
 bif decide ((t6b.length:Int)≥65536)then(j3 ([IntKind.u8.wrap p0,131,IntKind.u8.wrap ((t6b.length:Int).fdiv (65536)),IntKind.u8.wrap ((t6b.length:Int).fdiv (256)),IntKind.u8.wrap (t6b.length:Int)]:List Int))
 else(bif decide ((t6b.length:Int)≥256)then(j3 ([IntKind.u8.wrap p0,130,IntKind.u8.wrap ((t6b.length:Int).fdiv (256)),IntKind.u8.wrap (t6b.length:Int)]:List Int))
 else(bif decide ((t6b.length:Int)≥128)then(j3 ([IntKind.u8.wrap p0,129,IntKind.u8.wrap (t6b.length:Int)]:List Int))
 else(j3 ([IntKind.u8.wrap p0,IntKind.u8.wrap (t6b.length:Int)]:List Int)))))
 (fun l1008192c =>
 chk (List.all l1008192c isByte) <|
 chk (decide ((List.map byteOf l1008192c).length+t6b.length≤140737488355328)) <|
 some ((List.map byteOf l1008192c)++t6b,0)))))
abbrev AfR:Type:=Bs
def AP (N:Nat) (p0:Int) (p1:List Bs):Option AfR :=
 Ad (P8 N p0 p1) fun r10 =>
 some r10.1
abbrev vW:Type:=Bs×Int
def LW (N:Nat) (p0:Int):Option vW :=
 chk ((!(decide (p0<0)))||(!(!(decide (p0<0))))) <|
 chk (bif decide (p0<0)then true else !(decide (p0<0))) <|
 chk (bif decide (p0<0)then true else true) <|
 bif bif decide (p0<0)then true else decide (p0>65535)then(some (([]:Bs),1))
 else(Ak (X:=Int×Int) (Y:=Int) (U2 fun t4a t5a k1 x2 =>
 bif decide (t5a<16)then(chk (decide (0≤t5a)) <|
 bif (((p0.fdiv (2 ^ (min t5a.toNat 64))).tmod 2)==1)then(k1 (i64.wrap (t5a+1),i64.wrap (t5a+1)))
 else(k1 (t4a,i64.wrap (t5a+1))))
 else(x2 t4a))
 N (0,0) (fun t4b =>
 let x28:Int:=i64.wrap ((1:Int)+(i64.wrap ((i64.wrap (t4b+7)).tdiv 8)))
 chk (decide (x28≤x28)) <|
 chk (decide (0≤x28)) <|
 chk (decide (x28*2≤140737488355328)) <|
 let x34:Int:=i64.wrap ((8:Int)*(i64.wrap ((i64.wrap (t4b+7)).tdiv 8)))
 chk (decide (0<((List.replicate x28.toNat 0:List Int).length:Int))) <|
 chk (decide (0<(List.replicate x28.toNat 0:List Int).length)) <|
 let y40192:List Int:=(List.replicate x28.toNat 0:List Int).set 0 (IntKind.u8.wrap (i64.wrap (x34 - t4b)))
 Ak (X:=Int×List Int) (Y:=(List Int)) (U2 fun t7c l40192c k3 x4 =>
 bif decide (t7c<t4b)then(chk (decide (0≤t7c)) <|
 bif (((p0.fdiv (2 ^ (min t7c.toNat 64))).tmod 2)==1)then(chk (decide (0≤i64.wrap ((1:Int)+(i64.wrap (t7c.tdiv 8))))) <|
 chk (decide (i64.wrap ((1:Int)+(i64.wrap (t7c.tdiv 8)))<(l40192c.length:Int))) <|
 chk (decide ((i64.wrap ((1:Int)+(i64.wrap (t7c.tdiv 8)))).toNat<l40192c.length)) <|
 let x54:Int:=(l40192c.getD ((i64.wrap ((1:Int)+(i64.wrap (t7c.tdiv 8)))).toNat) 0)
 chk (decide (0≤t7c.tmod 8)) <|
 chk (decide (0≤i64.wrap ((1:Int)+(i64.wrap (t7c.tdiv 8))))) <|
 chk (decide (i64.wrap ((1:Int)+(i64.wrap (t7c.tdiv 8)))<(l40192c.length:Int))) <|
 chk (decide ((i64.wrap ((1:Int)+(i64.wrap (t7c.tdiv 8)))).toNat<l40192c.length)) <|
 let y40192:List Int:=l40192c.set ((i64.wrap ((1:Int)+(i64.wrap (t7c.tdiv 8)))).toNat) (BP .or .u8 x54 ((128:Int).fdiv (2 ^ (min (t7c.tmod 8).toNat 8))))
 k3 (i64.wrap (t7c+1),y40192))
 else(k3 (i64.wrap (t7c+1),l40192c)))
 else(x4 l40192c))
 N (0,y40192) (fun l40192d =>
 chk (List.all l40192d isByte) <|
 some (List.map byteOf l40192d,0))))
abbrev AdE:Type:=Bs
def G5 (N:Nat) (p0:Int) (p1:Int):Option AdE :=
 bif (p1==0)then(some ([]:Bs))
 else(Ad (LW N p1) fun r11 =>
 Ad (AP N p0 ([r11.1]:List Bs)) fun r17 =>
 some r17)
abbrev Adt:Type:=Bs
def QK (N:Nat) (p0:List Bs):Option Adt :=
 Ak (X:=Int×List Bs) (Y:=(List Bs)) (U2 fun t12a l1000000a k1 x2 =>
 bif decide (t12a<(p0.length:Int))then(chk (decide (0≤t12a)) <|
 chk (decide (t12a<(p0.length:Int))) <|
 Ak (X:=Int×List Bs) (Y:=(Int×List Bs)) (U2 fun t6b l1004096b k3 x4 =>
 chk ((decide (t6b<(l1004096b.length:Int)))||(!(decide (t6b<(l1004096b.length:Int))))) <|
 chk ((decide (t6b<(l1004096b.length:Int)))||(!(decide (t6b<(l1004096b.length:Int))))) <|
 chk ((decide (0≤t6b))||(!(decide (t6b<(l1004096b.length:Int))))) <|
 chk ((decide (t6b<(l1004096b.length:Int)))||(!(decide (t6b<(l1004096b.length:Int))))) <|
 chk ((decide (t6b<(l1004096b.length:Int)))||(!(decide (t6b<(l1004096b.length:Int))))) <|
 chk ((decide (t6b.toNat<l1004096b.length))||(!(decide (t6b<(l1004096b.length:Int))))) <|
 chk ((decide (t6b<(l1004096b.length:Int)))||(!(decide (t6b<(l1004096b.length:Int))))) <|
 chk ((decide (t6b<(l1004096b.length:Int)))||(!(decide (t6b<(l1004096b.length:Int))))) <|
 let x26:Bool:=(bytesLess (l1004096b.getD t6b.toNat ([]:Bs)) (p0.getD t12a.toNat ([]:Bs))||(l1004096b.getD t6b.toNat ([]:Bs))==(p0.getD t12a.toNat ([]:Bs)))
 chk (bif decide (t6b<(l1004096b.length:Int))then decide (t6b<(l1004096b.length:Int))else true) <|
 chk (bif decide (t6b<(l1004096b.length:Int))then true else true) <|
 bif bif decide (t6b<(l1004096b.length:Int))then x26 else false then(k3 (i64.wrap (t6b+1),l1004096b))
 else(x4 (t6b,l1004096b)))
 N (0,l1000000a) (U2 fun t6c l1008192c =>
 chk (decide (0≤t6c)) <|
 chk (decide (t6c≤(l1008192c.length:Int))) <|
 chk (decide (((AO l1008192c 0 t6c.toNat).length)*17≤140737488355328)) <|
 chk (decide (((AO l1008192c 0 t6c.toNat).length+1)*17≤140737488355328)) <|
 let y41984:List Bs:=(AO l1008192c 0 t6c.toNat)++([(p0.getD t12a.toNat ([]:Bs))]:List Bs)
 chk (decide (0≤t6c)) <|
 chk (decide (t6c≤(l1008192c.length:Int))) <|
 chk (decide ((y41984.length+(AO l1008192c t6c.toNat l1008192c.length).length)*17≤140737488355328)) <|
 k1 (i64.wrap (t12a+1),y41984++(AO l1008192c t6c.toNat l1008192c.length))))
 else(x2 l1000000a))
 N (0,([]:List Bs)) (fun l1012288d =>
 Ak (X:=Bs×Int×List Bs) (Y:=Bs) (U3 fun t7e t44e l1012288e k5 x6 =>
 bif decide (t44e<(l1012288d.length:Int))then(chk (decide (0≤t44e)) <|
 chk (decide (t44e<(l1012288e.length:Int))) <|
 chk (decide (t44e.toNat<l1012288e.length)) <|
 chk (decide (t7e.length+(l1012288e.getD t44e.toNat ([]:Bs)).length≤140737488355328)) <|
 k5 (t7e++(l1012288e.getD t44e.toNat ([]:Bs)),i64.wrap (t44e+1),l1012288e))
 else(x6 t7e))
 N (([]:Bs),0,l1012288d) (fun t7f =>
 some t7f))
abbrev oO:Type:=Bs×Int
def KA (N:Nat) (p0:Bs):Option oO :=
 Ad (LX N p0) fun r13 =>
 bif !r13.2 then(some (([]:Bs),11))
 else(chk (decide (0<(r13.1.length:Int))) <|
 chk (decide (1<(r13.1.length:Int))) <|
 let x25:Int:=i64.wrap ((i64.wrap ((40:Int)*(r13.1.getD 0 0)))+(r13.1.getD 1 0))
 chk (decide (2≤(r13.1.length:Int))) <|
 chk (decide ((1+(AO r13.1 2 r13.1.length).length)*9≤140737488355328)) <|
 Ak (X:=Int×List Int×List Int) (Y:=(List Int)) (U3 fun t32a l40192a l1000000a k1 x2 =>
 let x33:Bool:=decide (t32a<((([x25]:List Int)++(AO r13.1 2 r13.1.length)).length:Int))
 bif x33 then(chk (decide (0≤t32a)) <|
 chk (decide (t32a<(l40192a.length:Int))) <|
 chk (decide (t32a.toNat<l40192a.length)) <|
 Ak (X:=Int×List Int×List Int×List Int) (Y:=(List Int×List Int×List Int)) (U4 fun t8b l40192b l1004096b l1004112b k3 x4 =>
 chk (decide ((1+l1004096b.length)*2≤140737488355328)) <|
 bif ((i64.wrap (t8b.tdiv 128))==0)then(x4 (l40192b,([IntKind.u8.wrap (t8b.tmod 128)]:List Int)++l1004096b,l1004112b))
 else(k3 (i64.wrap (t8b.tdiv 128),l40192b,([IntKind.u8.wrap (t8b.tmod 128)]:List Int)++l1004096b,l1004112b)))
 N ((l40192a.getD t32a.toNat 0),l40192a,([]:List Int),l1000000a) (U3 fun l40192c l43264c l1008192c =>
 Ak (X:=Int×List Int×List Int×List Int) (Y:=(List Int×List Int×List Int)) (U4 fun t10d l40192d l43264d l1012288d k5 x6 =>
 let x50:Bool:=decide ((i64.wrap (t10d+1))<(l43264d.length:Int))
 bif x50 then(chk (decide (0≤t10d)) <|
 chk (decide (t10d<(l43264d.length:Int))) <|
 chk (decide (t10d.toNat<l43264d.length)) <|
 chk (decide (0≤t10d)) <|
 chk (decide (t10d<(l43264d.length:Int))) <|
 chk (decide (t10d.toNat<l43264d.length)) <|
 let y43264:List Int:=l43264d.set t10d.toNat (IntKind.u8.wrap ((l43264d.getD t10d.toNat 0)+128))
 k5 (i64.wrap (t10d+1),l40192d,y43264,l1012288d))
 else(x6 (l40192d,l43264d,l1012288d)))
 N (0,l40192c,l43264c,l1008192c) (U3 fun l40192e l43264e l1016384e =>
 chk (decide ((l1016384e.length+l43264e.length)*2≤140737488355328)) <|
 k1 (i64.wrap (t32a+1),l40192e,l1016384e++l43264e))))
 else(x2 l1000000a))
 N (0,([x25]:List Int)++(AO r13.1 2 r13.1.length),([]:List Int)) (fun l1020480f =>
 chk (List.all l1020480f isByte) <|
 some (List.map byteOf l1020480f,0)))
abbrev AgU:Type:=Bs
def Jp (N:Nat) (p0:Bs):Option AgU :=
 Ad (KA N p0) fun r7 =>
 Ad (AP N 6 ([r7.1]:List Bs)) fun r12 =>
 some r12
abbrev kM:Type:=List Bs
def J5 (N:Nat) (p0:Yq0):Option kM :=
 Ak (X:=Int×List Bs) (Y:=(List Bs)) (U2 fun t8a l1000000a k1 x2 =>
 bif decide (t8a<(p0.length:Int))then(chk (decide (0≤t8a)) <|
 chk (decide (t8a<(p0.length:Int))) <|
 Ad (Jp N ((p0.getD t8a.toNat (([]:Bs),0,([]:Bs))).1)) fun r15 =>
 Ad (AP N ((p0.getD t8a.toNat (([]:Bs),0,([]:Bs))).2.1) ([(p0.getD t8a.toNat (([]:Bs),0,([]:Bs))).2.2]:List Bs)) fun r21 =>
 Ad (AP N 48 ([r15,r21]:List Bs)) fun r23 =>
 chk (decide ((l1000000a.length+1)*17≤140737488355328)) <|
 k1 (i64.wrap (t8a+1),l1000000a++([r23]:List Bs)))
 else(x2 l1000000a))
 N (0,([]:List Bs)) (fun l1004096b =>
 some l1004096b)
abbrev kH:Type:=Bs×Int
def J4 (N:Nat) (p0:List Yq0):Option kH :=
 Ad (ED N p0) fun r9 =>
 bif (r9 != 0)then(some (([]:Bs),r9))
 else(Ak (X:=Bs×Int) (Y:=Bs) (U2 fun t5a t16a k1 x2 =>
 bif decide (t16a<(p0.length:Int))then(chk (decide (0≤t16a)) <|
 chk (decide (t16a<(p0.length:Int))) <|
 Ad (J5 N (p0.getD t16a.toNat ([]:List (Bs×Int×Bs)))) fun r22 =>
 Ad (QK N r22) fun r23 =>
 Ad (AP N 49 ([r23]:List Bs)) fun r25 =>
 chk (decide (t5a.length+r25.length≤140737488355328)) <|
 k1 (t5a++r25,i64.wrap (t16a+1)))
 else(x2 t5a))
 N (([]:Bs),0) (fun t5b =>
 Ad (AP N 48 ([t5b]:List Bs)) fun r30 =>
 some (r30,0)))
abbrev Yj:Type:=Bs×Int
def ET (N:Nat) (p0:Yq1) (p1:Bool):Option Yj :=
 Ad (En N p0 p1) fun r11 =>
 bif (r11 != 0)then(some (([]:Bs),r11))
 else(bif (p0.1==4)then(Ad (J4 N p0.2.2) fun r21 =>
 Ad (AP N (i64.wrap ((160:Int)+p0.1)) ([r21.1]:List Bs)) fun r29 =>
 some (r29,0))
 else(Ad (AP N (i64.wrap ((128:Int)+p0.1)) ([p0.2.1]:List Bs)) fun r36 =>
 some (r36,0)))
abbrev kF:Type:=Bs×Int
def Fq (N:Nat) (p0:List Yq1):Option kF :=
 bif ((p0.length:Int)==0)then(some (([]:Bs),7))
 else(bif decide ((p0.length:Int)>16)then(some (([]:Bs),2))
 else(Ak (X:=Bs×Int) (Y:=Bs) (U2 fun t4a t17a k1 x2 =>
 bif decide (t17a<(p0.length:Int))then(chk (decide (0≤t17a)) <|
 chk (decide (t17a<(p0.length:Int))) <|
 Ad (ET N (p0.getD t17a.toNat (0,([]:Bs),([]:List Yq0))) false) fun r23 =>
 bif (r23.2 != 0)then(some (([]:Bs),r23.2))
 else(chk (decide (t4a.length+r23.1.length≤140737488355328)) <|
 k1 (t4a++r23.1,i64.wrap (t17a+1))))
 else(x2 t4a))
 N (([]:Bs),0) (fun t4b =>
 some (t4b,0))))
abbrev pR:Type:=Bs
def KD (N:Nat) (p0:List Yq0):Option pR :=
 Ad (Fq N ([(4,([]:Bs),p0)]:List Yq1)) fun r9 =>
 some r9.1
abbrev pU:Type:=Bs
def Ik (N:Nat) (p0:List Yq1):Option pU :=
 bif ((p0.length:Int)==0)then(some ([]:Bs))
 else(Ad (Fq N p0) fun r10 =>
 Ad (AP N 160 ([r10.1]:List Bs)) fun r15 =>
 Ad (AP N 160 ([r15]:List Bs)) fun r17 =>
 some r17)
abbrev AgT:Type:=Bs×Int
def Gy (N:Nat) (p0:Int) (p1:List Bs):Option AgT :=
 Ad (P8 N p0 p1) fun r11 =>
 bif (r11.2 != 0)then(some (([]:Bs),2))
 else(some (r11.1,0))
abbrev ZE:Type:=Bs×Int
def Dt (N:Nat) (p0:List Yq2):Option ZE :=
 bif ((p0.length:Int)==0)then(some (([]:Bs),7))
 else(Ad (D5 N p0) fun r13 =>
 bif (r13 != 0)then(some (([]:Bs),r13))
 else(Ak (X:=Bs×Int) (Y:=Bs) (U2 fun t5a t19a k1 x2 =>
 bif decide (t19a<(p0.length:Int))then(chk (decide (0≤t19a)) <|
 chk (decide (t19a<(p0.length:Int))) <|
 CS (α :=Bs×List Yq1×Int×Bool×List Yq0) (fun j3 =>
 let x24:Bool:=(p0.getD t19a.toNat (([]:List Yq1),0,false,([]:List Yq0))).2.2.1
 bif x24 then(Ad (KD N ((p0.getD t19a.toNat (([]:List Yq1),0,false,([]:List Yq0))).2.2.2)) fun r27 =>
 Ad (AP N 162 ([r27]:List Bs)) fun r29 =>
 j3 (r29,(p0.getD t19a.toNat (([]:List Yq1),0,false,([]:List Yq0))).1,(p0.getD t19a.toNat (([]:List Yq1),0,false,([]:List Yq0))).2.1,(p0.getD t19a.toNat (([]:List Yq1),0,false,([]:List Yq0))).2.2.1,(p0.getD t19a.toNat (([]:List Yq1),0,false,([]:List Yq0))).2.2.2))
 else(j3 (([]:Bs),(p0.getD t19a.toNat (([]:List Yq1),0,false,([]:List Yq0))).1,(p0.getD t19a.toNat (([]:List Yq1),0,false,([]:List Yq0))).2.1,(p0.getD t19a.toNat (([]:List Yq1),0,false,([]:List Yq0))).2.2.1,(p0.getD t19a.toNat (([]:List Yq1),0,false,([]:List Yq0))).2.2.2)))
 (U5 fun t8b b34560_0b b34560_1b b34560_2b b34560_3b =>
 Ad (Ik N b34560_0b) fun r33 =>
 Ad (G5 N 129 b34560_1b) fun r36 =>
 Ad (AP N 48 ([r33,r36,t8b]:List Bs)) fun r39 =>
 chk (decide (t5a.length+r39.length≤140737488355328)) <|
 k1 (t5a++r39,i64.wrap (t19a+1))))
 else(x2 t5a))
 N (([]:Bs),0) (fun t5c =>
 Ad (Gy N 48 ([t5c]:List Bs)) fun r44 =>
 some (r44.1,r44.2))))
abbrev jT:Type:=Bs
def UL (N:Nat) (p0:Bool):Option jT :=
 bif p0 then(some ([255]:Bs))
 else(some ([0]:Bs))
abbrev Aal:Type:=Bs
def NH (N:Nat) (p0:Int) (p1:Bool):Option Aal :=
 bif !p1 then(some ([]:Bs))
 else(Ad (UL N true) fun r8 =>
 Ad (AP N p0 ([r8]:List Bs)) fun r10 =>
 some r10)
abbrev jV:Type:=Bs
def Jz (N:Nat) (p0:Int):Option jV :=
 Ak (X:=Int×List Int) (Y:=(List Int)) (U2 fun t5a l1000000a k1 x2 =>
 bif decide (t5a≥0)then(chk (decide (0≤i64.wrap ((8:Int)*t5a))) <|
 let x16:Int:=(IntKind.u64.wrap p0).fdiv (2 ^ (min (i64.wrap ((8:Int)*t5a)).toNat 64))
 chk (decide ((l1000000a.length+1)*2≤140737488355328)) <|
 k1 (i64.wrap (t5a - 1),l1000000a++([IntKind.u8.wrap x16]:List Int)))
 else(x2 l1000000a))
 N (7,([]:List Int)) (fun l1000000b =>
 Ak (X:=List Int) (Y:=(List Int)) (fun t4c k3 x4 =>
 Af (decide ((t4c.length:Int)>1)) fun b5 =>
 chk (b5||(!b5)) <|
 chk ((decide (0<(t4c.length:Int)))||(!b5)) <|
 chk (b5||(!b5)) <|
 chk (b5||(!b5)) <|
 chk (b5||(!b5)) <|
 Af ((t4c.getD 0 0)==0) fun b6 =>
 chk ((b5&&b6)||(!(b5&&b6))) <|
 chk ((decide (1<(t4c.length:Int)))||(!(b5&&b6))) <|
 chk ((b5&&b6)||(!(b5&&b6))) <|
 chk ((b5&&b6)||(!(b5&&b6))) <|
 chk (b5||(!b5)) <|
 chk ((bif b6 then(b5&&b6)else true)||(!b5)) <|
 chk ((bif b6 then true else true)||(!b5)) <|
 Af (bif b6 then decide ((t4c.getD 1 0)<128)else false) fun b7 =>
 chk (b5||(!b5)) <|
 Af (b7) fun b8 =>
 chk ((b5&&(!b8))||(!(b5&&(!b8)))) <|
 chk ((decide (0<(t4c.length:Int)))||(!(b5&&(!b8)))) <|
 chk ((b5&&(!b8))||(!(b5&&(!b8)))) <|
 chk ((b5&&(!b8))||(!(b5&&(!b8)))) <|
 chk ((b5&&(!b8))||(!(b5&&(!b8)))) <|
 Af ((t4c.getD 0 0)==255) fun b9 =>
 chk (((b5&&(!b8))&&b9)||(!((b5&&(!b8))&&b9))) <|
 chk ((decide (1<(t4c.length:Int)))||(!((b5&&(!b8))&&b9))) <|
 chk (((b5&&(!b8))&&b9)||(!((b5&&(!b8))&&b9))) <|
 chk (((b5&&(!b8))&&b9)||(!((b5&&(!b8))&&b9))) <|
 chk ((b5&&(!b8))||(!(b5&&(!b8)))) <|
 chk ((bif b9 then((b5&&(!b8))&&b9)else true)||(!(b5&&(!b8)))) <|
 chk ((bif b9 then true else true)||(!(b5&&(!b8)))) <|
 Af (bif b9 then decide ((t4c.getD 1 0)≥128)else false) fun b10 =>
 chk (b5||(!b5)) <|
 chk ((bif b8 then true else(b5&&(!b8)))||(!b5)) <|
 chk ((bif b8 then true else true)||(!b5)) <|
 Af (bif b8 then true else b10) fun b11 =>
 chk (bif b5 then b5 else true) <|
 chk (bif b5 then true else true) <|
 Af (bif b5 then b11 else false) fun b12 =>
 bif b12 then(chk (decide (1≤(t4c.length:Int))) <|
 k3 (AO t4c 1 t4c.length))
 else(x4 t4c))
 N l1000000b (fun t4d =>
 chk (List.all t4d isByte) <|
 some (List.map byteOf t4d)))
abbrev AbF:Type:=Bs
def DF (N:Nat) (p0:Int) (p1:Int):Option AbF :=
 Ad (Jz N p1) fun r7 =>
 Ad (AP N p0 ([r7]:List Bs)) fun r9 =>
 some r9
abbrev AfT:Type:=Bs×Int
def J6 (N:Nat) (p0:Int) (p1:List Yq1):Option AfT :=
 bif ((p1.length:Int)==0)then(some (([]:Bs),0))
 else(Ak (X:=Bs×Int) (Y:=Bs) (U2 fun t6a t16a k1 x2 =>
 bif decide (t16a<(p1.length:Int))then(chk (decide (0≤t16a)) <|
 chk (decide (t16a<(p1.length:Int))) <|
 Ad (ET N (p1.getD t16a.toNat (0,([]:Bs),([]:List Yq0))) true) fun r22 =>
 Ad (AP N 48 ([r22.1]:List Bs)) fun r28 =>
 chk (decide (t6a.length+r28.length≤140737488355328)) <|
 k1 (t6a++r28,i64.wrap (t16a+1)))
 else(x2 t6a))
 N (([]:Bs),0) (fun t6b =>
 Ad (Gy N p0 ([t6b]:List Bs)) fun r34 =>
 some (r34.1,r34.2)))
abbrev WX:Type:=Bs×Int
def EE (N:Nat) (p0:Yq6):Option WX :=
 Ad (D7 N p0) fun r9 =>
 bif (r9 != 0)then(some (([]:Bs),r9))
 else(Ad (J6 N 160 p0.1) fun r16 =>
 bif (r16.2 != 0)then(some (([]:Bs),r16.2))
 else(Ad (J6 N 161 p0.2) fun r25 =>
 bif (r25.2 != 0)then(some (([]:Bs),r25.2))
 else(Ad (Gy N 48 ([r16.1,r25.1]:List Bs)) fun r34 =>
 some (r34.1,r34.2))))
abbrev kR:Type:=Yq3×Int
def GZ (N:Nat) (p0:Yq4):Option kR :=
 Ad (FY N p0) fun r26 =>
 bif (r26 != 0)then(some (([]:List (Bs×Bool×Bs)),r26))
 else(CS (α :=Bool×Bool×Int×Int×List Bs×List Bs×(List (Bs×Bs))×Int×Int×Int×List Yq1×Bool×List Yq1×List Yq1×Bs×Bs×List Yq2×List Yq2×(List (Bs×Bool×Bs))×List (Bs×Bool×Bs)) (fun j1 =>
 bif p0.1 then(Ad (NH N 1 p0.2.1) fun r34 =>
 CS (α :=Bs×Bool×Bool×Int×Int×List Bs×List Bs×(List (Bs×Bs))×Int×Int×Int×List Yq1×Bool×List Yq1×List Yq1×Bs×Bs×List Yq2×List Yq2×List (Bs×Bool×Bs)) (fun j2 =>
 bif decide (p0.2.2.1≥0)then(Ad (DF N 2 p0.2.2.1) fun r41 =>
 chk (decide (r34.length+r41.length≤140737488355328)) <|
 j2 (r34++r41,p0.1,p0.2.1,p0.2.2.1,p0.2.2.2.1,p0.2.2.2.2.1,p0.2.2.2.2.2.1,p0.2.2.2.2.2.2.1,p0.2.2.2.2.2.2.2.1,p0.2.2.2.2.2.2.2.2.1,p0.2.2.2.2.2.2.2.2.2.1,p0.2.2.2.2.2.2.2.2.2.2.1,p0.2.2.2.2.2.2.2.2.2.2.2.1,p0.2.2.2.2.2.2.2.2.2.2.2.2.1,p0.2.2.2.2.2.2.2.2.2.2.2.2.2.1,p0.2.2.2.2.2.2.2.2.2.2.2.2.2.2.1,p0.2.2.2.2.2.2.2.2.2.2.2.2.2.2.2.1,p0.2.2.2.2.2.2.2.2.2.2.2.2.2.2.2.2.1,p0.2.2.2.2.2.2.2.2.2.2.2.2.2.2.2.2.2.1,p0.2.2.2.2.2.2.2.2.2.2.2.2.2.2.2.2.2.2))
 else(j2 (r34,p0.1,p0.2.1,p0.2.2.1,p0.2.2.2.1,p0.2.2.2.2.1,p0.2.2.2.2.2.1,p0.2.2.2.2.2.2.1,p0.2.2.2.2.2.2.2.1,p0.2.2.2.2.2.2.2.2.1,p0.2.2.2.2.2.2.2.2.2.1,p0.2.2.2.2.2.2.2.2.2.2.1,p0.2.2.2.2.2.2.2.2.2.2.2.1,p0.2.2.2.2.2.2.2.2.2.2.2.2.1,p0.2.2.2.2.2.2.2.2.2.2.2.2.2.1,p0.2.2.2.2.2.2.2.2.2.2.2.2.2.2.1,p0.2.2.2.2.2.2.2.2.2.2.2.2.2.2.2.1,p0.2.2.2.2.2.2.2.2.2.2.2.2.2.2.2.2.1,p0.2.2.2.2.2.2.2.2.2.2.2.2.2.2.2.2.2.1,p0.2.2.2.2.2.2.2.2.2.2.2.2.2.2.2.2.2.2)))
 (U20 fun t6b b33024_0b b33024_1b b33024_2b b33024_3b b33024_4b b33024_5b b33024_6b b33024_7b b33024_8b b33024_9b b33024_10b b33024_11b b33024_12b b33024_13b b33024_14b b33024_15b b33024_16b b33024_17b b33024_18b =>
 Ad (AP N 48 ([t6b]:List Bs)) fun r46 =>
 j1 (b33024_0b,b33024_1b,b33024_2b,b33024_3b,b33024_4b,b33024_5b,b33024_6b,b33024_7b,b33024_8b,b33024_9b,b33024_10b,b33024_11b,b33024_12b,b33024_13b,b33024_14b,b33024_15b,b33024_16b,b33024_17b,b33024_18b,([(([50,46,53,46,50,57,46,49,57]:Bs),true,r46)]:List (Bs×Bool×Bs)))))
 else(j1 (p0.1,p0.2.1,p0.2.2.1,p0.2.2.2.1,p0.2.2.2.2.1,p0.2.2.2.2.2.1,p0.2.2.2.2.2.2.1,p0.2.2.2.2.2.2.2.1,p0.2.2.2.2.2.2.2.2.1,p0.2.2.2.2.2.2.2.2.2.1,p0.2.2.2.2.2.2.2.2.2.2.1,p0.2.2.2.2.2.2.2.2.2.2.2.1,p0.2.2.2.2.2.2.2.2.2.2.2.2.1,p0.2.2.2.2.2.2.2.2.2.2.2.2.2.1,p0.2.2.2.2.2.2.2.2.2.2.2.2.2.2.1,p0.2.2.2.2.2.2.2.2.2.2.2.2.2.2.2.1,p0.2.2.2.2.2.2.2.2.2.2.2.2.2.2.2.2.1,p0.2.2.2.2.2.2.2.2.2.2.2.2.2.2.2.2.2.1,p0.2.2.2.2.2.2.2.2.2.2.2.2.2.2.2.2.2.2,([]:List (Bs×Bool×Bs)))))
 (U20 fun b33024_0a b33024_1a b33024_2a b33024_3a b33024_4a b33024_5a b33024_6a b33024_7a b33024_8a b33024_9a b33024_10a b33024_11a b33024_12a b33024_13a b33024_14a b33024_15a b33024_16a b33024_17a b33024_18a l1000000a =>
 CS (α :=Bool×Bool×Int×Int×List Bs×List Bs×(List (Bs×Bs))×Int×Int×Int×List Yq1×Bool×List Yq1×List Yq1×Bs×Bs×List Yq2×List Yq2×(List (Bs×Bool×Bs))×List (Bs×Bool×Bs)) (fun j3 =>
 bif (b33024_3a != 0)then(Ad (G5 N 3 b33024_3a) fun r56 =>
 chk (decide ((l1000000a.length+1)*41≤140737488355328)) <|
 let y47872:List (Bs×Bool×Bs):=l1000000a++([(([50,46,53,46,50,57,46,49,53]:Bs),true,r56)]:List (Bs×Bool×Bs))
 j3 (b33024_0a,b33024_1a,b33024_2a,b33024_3a,b33024_4a,b33024_5a,b33024_6a,b33024_7a,b33024_8a,b33024_9a,b33024_10a,b33024_11a,b33024_12a,b33024_13a,b33024_14a,b33024_15a,b33024_16a,b33024_17a,b33024_18a,y47872))
 else(j3 (b33024_0a,b33024_1a,b33024_2a,b33024_3a,b33024_4a,b33024_5a,b33024_6a,b33024_7a,b33024_8a,b33024_9a,b33024_10a,b33024_11a,b33024_12a,b33024_13a,b33024_14a,b33024_15a,b33024_16a,b33024_17a,b33024_18a,l1000000a)))
 (U20 fun b33024_0c b33024_1c b33024_2c b33024_3c b33024_4c b33024_5c b33024_6c b33024_7c b33024_8c b33024_9c b33024_10c b33024_11c b33024_12c b33024_13c b33024_14c b33024_15c b33024_16c b33024_17c b33024_18c l1008192c =>
 CS (α :=Bool×Bool×Int×Int×List Bs×List Bs×(List (Bs×Bs))×Int×Int×Int×List Yq1×Bool×List Yq1×List Yq1×Bs×Bs×List Yq2×List Yq2×(List (Bs×Bool×Bs))×List (Bs×Bool×Bs)) (fun j4 =>
 bif decide ((b33024_4c.length:Int)>0)then(Ak (X:=Bs×Int×Bool×Bool×Int×Int×List Bs×List Bs×(List (Bs×Bs))×Int×Int×Int×List Yq1×Bool×List Yq1×List Yq1×Bs×Bs×List Yq2×List Yq2×(List (Bs×Bool×Bs))×List (Bs×Bool×Bs)) (Y:=(Bs×Bool×Bool×Int×Int×List Bs×List Bs×(List (Bs×Bs))×Int×Int×Int×List Yq1×Bool×List Yq1×List Yq1×Bs×Bs×List Yq2×List Yq2×(List (Bs×Bool×Bs))×List (Bs×Bool×Bs))) (U22 fun t7e t67e b33024_0e b33024_1e b33024_2e b33024_3e b33024_4e b33024_5e b33024_6e b33024_7e b33024_8e b33024_9e b33024_10e b33024_11e b33024_12e b33024_13e b33024_14e b33024_15e b33024_16e b33024_17e b33024_18e l1008192e k5 x6 =>
 bif decide (t67e<(b33024_4c.length:Int))then(chk (decide (0≤t67e)) <|
 chk (decide (t67e<(b33024_4c.length:Int))) <|
 Ad (Jp N (b33024_4c.getD t67e.toNat ([]:Bs))) fun r73 =>
 chk (decide (t7e.length+r73.length≤140737488355328)) <|
 k5 (t7e++r73,i64.wrap (t67e+1),b33024_0e,b33024_1e,b33024_2e,b33024_3e,b33024_4e,b33024_5e,b33024_6e,b33024_7e,b33024_8e,b33024_9e,b33024_10e,b33024_11e,b33024_12e,b33024_13e,b33024_14e,b33024_15e,b33024_16e,b33024_17e,b33024_18e,l1008192e))
 else(x6 (t7e,b33024_0e,b33024_1e,b33024_2e,b33024_3e,b33024_4e,b33024_5e,b33024_6e,b33024_7e,b33024_8e,b33024_9e,b33024_10e,b33024_11e,b33024_12e,b33024_13e,b33024_14e,b33024_15e,b33024_16e,b33024_17e,b33024_18e,l1008192e)))
 N (([]:Bs),0,b33024_0c,b33024_1c,b33024_2c,b33024_3c,b33024_4c,b33024_5c,b33024_6c,b33024_7c,b33024_8c,b33024_9c,b33024_10c,b33024_11c,b33024_12c,b33024_13c,b33024_14c,b33024_15c,b33024_16c,b33024_17c,b33024_18c,l1008192c) (U21 fun t7f b33024_0f b33024_1f b33024_2f b33024_3f b33024_4f b33024_5f b33024_6f b33024_7f b33024_8f b33024_9f b33024_10f b33024_11f b33024_12f b33024_13f b33024_14f b33024_15f b33024_16f b33024_17f b33024_18f l1008192f =>
 Ad (AP N 48 ([t7f]:List Bs)) fun r79 =>
 chk (decide ((l1008192f.length+1)*41≤140737488355328)) <|
 let y53760:List (Bs×Bool×Bs):=l1008192f++([(([50,46,53,46,50,57,46,51,55]:Bs),false,r79)]:List (Bs×Bool×Bs))
 j4 (b33024_0f,b33024_1f,b33024_2f,b33024_3f,b33024_4f,b33024_5f,b33024_6f,b33024_7f,b33024_8f,b33024_9f,b33024_10f,b33024_11f,b33024_12f,b33024_13f,b33024_14f,b33024_15f,b33024_16f,b33024_17f,b33024_18f,y53760)))
 else(j4 (b33024_0c,b33024_1c,b33024_2c,b33024_3c,b33024_4c,b33024_5c,b33024_6c,b33024_7c,b33024_8c,b33024_9c,b33024_10c,b33024_11c,b33024_12c,b33024_13c,b33024_14c,b33024_15c,b33024_16c,b33024_17c,b33024_18c,l1008192c)))
 (U20 fun b33024_0d b33024_1d b33024_2d b33024_3d b33024_4d b33024_5d b33024_6d b33024_7d b33024_8d b33024_9d b33024_10d b33024_11d b33024_12d b33024_13d b33024_14d b33024_15d b33024_16d b33024_17d b33024_18d l1012288d =>
 CS (α :=Bool×Bool×Int×Int×List Bs×List Bs×(List (Bs×Bs))×Int×Int×Int×List Yq1×Bool×List Yq1×List Yq1×Bs×Bs×List Yq2×List Yq2×(List (Bs×Bool×Bs))×List (Bs×Bool×Bs)) (fun j7 =>
 bif decide ((b33024_5d.length:Int)>0)then(Ak (X:=Bs×Int×Bool×Bool×Int×Int×List Bs×List Bs×(List (Bs×Bs))×Int×Int×Int×List Yq1×Bool×List Yq1×List Yq1×Bs×Bs×List Yq2×List Yq2×(List (Bs×Bool×Bs))×List (Bs×Bool×Bs)) (Y:=(Bs×Bool×Bool×Int×Int×List Bs×List Bs×(List (Bs×Bs))×Int×Int×Int×List Yq1×Bool×List Yq1×List Yq1×Bs×Bs×List Yq2×List Yq2×(List (Bs×Bool×Bs))×List (Bs×Bool×Bs))) (U22 fun t10h t90h b33024_0h b33024_1h b33024_2h b33024_3h b33024_4h b33024_5h b33024_6h b33024_7h b33024_8h b33024_9h b33024_10h b33024_11h b33024_12h b33024_13h b33024_14h b33024_15h b33024_16h b33024_17h b33024_18h l1012288h k8 x9 =>
 bif decide (t90h<(b33024_5d.length:Int))then(chk (decide (0≤t90h)) <|
 chk (decide (t90h<(b33024_5d.length:Int))) <|
 Ad (Jp N (b33024_5d.getD t90h.toNat ([]:Bs))) fun r96 =>
 Ad (AP N 48 ([r96]:List Bs)) fun r98 =>
 chk (decide (t10h.length+r98.length≤140737488355328)) <|
 k8 (t10h++r98,i64.wrap (t90h+1),b33024_0h,b33024_1h,b33024_2h,b33024_3h,b33024_4h,b33024_5h,b33024_6h,b33024_7h,b33024_8h,b33024_9h,b33024_10h,b33024_11h,b33024_12h,b33024_13h,b33024_14h,b33024_15h,b33024_16h,b33024_17h,b33024_18h,l1012288h))
 else(x9 (t10h,b33024_0h,b33024_1h,b33024_2h,b33024_3h,b33024_4h,b33024_5h,b33024_6h,b33024_7h,b33024_8h,b33024_9h,b33024_10h,b33024_11h,b33024_12h,b33024_13h,b33024_14h,b33024_15h,b33024_16h,b33024_17h,b33024_18h,l1012288h)))
 N (([]:Bs),0,b33024_0d,b33024_1d,b33024_2d,b33024_3d,b33024_4d,b33024_5d,b33024_6d,b33024_7d,b33024_8d,b33024_9d,b33024_10d,b33024_11d,b33024_12d,b33024_13d,b33024_14d,b33024_15d,b33024_16d,b33024_17d,b33024_18d,l1012288d) (U21 fun t10i b33024_0i b33024_1i b33024_2i b33024_3i b33024_4i b33024_5i b33024_6i b33024_7i b33024_8i b33024_9i b33024_10i b33024_11i b33024_12i b33024_13i b33024_14i b33024_15i b33024_16i b33024_17i b33024_18i l1012288i =>
 Ad (AP N 48 ([t10i]:List Bs)) fun r104 =>
 chk (decide ((l1012288i.length+1)*41≤140737488355328)) <|
 let y60160:List (Bs×Bool×Bs):=l1012288i++([(([50,46,53,46,50,57,46,51,50]:Bs),false,r104)]:List (Bs×Bool×Bs))
 j7 (b33024_0i,b33024_1i,b33024_2i,b33024_3i,b33024_4i,b33024_5i,b33024_6i,b33024_7i,b33024_8i,b33024_9i,b33024_10i,b33024_11i,b33024_12i,b33024_13i,b33024_14i,b33024_15i,b33024_16i,b33024_17i,b33024_18i,y60160)))
 else(j7 (b33024_0d,b33024_1d,b33024_2d,b33024_3d,b33024_4d,b33024_5d,b33024_6d,b33024_7d,b33024_8d,b33024_9d,b33024_10d,b33024_11d,b33024_12d,b33024_13d,b33024_14d,b33024_15d,b33024_16d,b33024_17d,b33024_18d,l1012288d)))
 (U20 fun b33024_0g b33024_1g b33024_2g b33024_3g b33024_4g b33024_5g b33024_6g b33024_7g b33024_8g b33024_9g b33024_10g b33024_11g b33024_12g b33024_13g b33024_14g b33024_15g b33024_16g b33024_17g b33024_18g l1024576g =>
 CS (α :=Bool×Bool×Int×Int×List Bs×List Bs×(List (Bs×Bs))×Int×Int×Int×List Yq1×Bool×List Yq1×List Yq1×Bs×Bs×List Yq2×List Yq2×(List (Bs×Bool×Bs))×List (Bs×Bool×Bs)) (fun j10 =>
 bif decide ((b33024_6g.length:Int)>0)then(Ak (X:=Bs×Int×Bool×Bool×Int×Int×List Bs×List Bs×(List (Bs×Bs))×Int×Int×Int×List Yq1×Bool×List Yq1×List Yq1×Bs×Bs×List Yq2×List Yq2×(List (Bs×Bool×Bs))×List (Bs×Bool×Bs)) (Y:=(Bs×Bool×Bool×Int×Int×List Bs×List Bs×(List (Bs×Bs))×Int×Int×Int×List Yq1×Bool×List Yq1×List Yq1×Bs×Bs×List Yq2×List Yq2×(List (Bs×Bool×Bs))×List (Bs×Bool×Bs))) (U22 fun t13k t115k b33024_0k b33024_1k b33024_2k b33024_3k b33024_4k b33024_5k b33024_6k b33024_7k b33024_8k b33024_9k b33024_10k b33024_11k b33024_12k b33024_13k b33024_14k b33024_15k b33024_16k b33024_17k b33024_18k l1024576k k11 x12 =>
 bif decide (t115k<(b33024_6g.length:Int))then(chk (decide (0≤t115k)) <|
 chk (decide (t115k<(b33024_6g.length:Int))) <|
 Ad (Jp N ((b33024_6g.getD t115k.toNat (([]:Bs),([]:Bs))).1)) fun r122 =>
 Ad (Jp N ((b33024_6g.getD t115k.toNat (([]:Bs),([]:Bs))).2)) fun r125 =>
 Ad (AP N 48 ([r122,r125]:List Bs)) fun r127 =>
 chk (decide (t13k.length+r127.length≤140737488355328)) <|
 k11 (t13k++r127,i64.wrap (t115k+1),b33024_0k,b33024_1k,b33024_2k,b33024_3k,b33024_4k,b33024_5k,b33024_6k,b33024_7k,b33024_8k,b33024_9k,b33024_10k,b33024_11k,b33024_12k,b33024_13k,b33024_14k,b33024_15k,b33024_16k,b33024_17k,b33024_18k,l1024576k))
 else(x12 (t13k,b33024_0k,b33024_1k,b33024_2k,b33024_3k,b33024_4k,b33024_5k,b33024_6k,b33024_7k,b33024_8k,b33024_9k,b33024_10k,b33024_11k,b33024_12k,b33024_13k,b33024_14k,b33024_15k,b33024_16k,b33024_17k,b33024_18k,l1024576k)))
 N (([]:Bs),0,b33024_0g,b33024_1g,b33024_2g,b33024_3g,b33024_4g,b33024_5g,b33024_6g,b33024_7g,b33024_8g,b33024_9g,b33024_10g,b33024_11g,b33024_12g,b33024_13g,b33024_14g,b33024_15g,b33024_16g,b33024_17g,b33024_18g,l1024576g) (U21 fun t13l b33024_0l b33024_1l b33024_2l b33024_3l b33024_4l b33024_5l b33024_6l b33024_7l b33024_8l b33024_9l b33024_10l b33024_11l b33024_12l b33024_13l b33024_14l b33024_15l b33024_16l b33024_17l b33024_18l l1024576l =>
 Ad (AP N 48 ([t13l]:List Bs)) fun r133 =>
 chk (decide ((l1024576l.length+1)*41≤140737488355328)) <|
 let y67584:List (Bs×Bool×Bs):=l1024576l++([(([50,46,53,46,50,57,46,51,51]:Bs),true,r133)]:List (Bs×Bool×Bs))
 j10 (b33024_0l,b33024_1l,b33024_2l,b33024_3l,b33024_4l,b33024_5l,b33024_6l,b33024_7l,b33024_8l,b33024_9l,b33024_10l,b33024_11l,b33024_12l,b33024_13l,b33024_14l,b33024_15l,b33024_16l,b33024_17l,b33024_18l,y67584)))
 else(j10 (b33024_0g,b33024_1g,b33024_2g,b33024_3g,b33024_4g,b33024_5g,b33024_6g,b33024_7g,b33024_8g,b33024_9g,b33024_10g,b33024_11g,b33024_12g,b33024_13g,b33024_14g,b33024_15g,b33024_16g,b33024_17g,b33024_18g,l1024576g)))
 (U20 fun b33024_0j b33024_1j b33024_2j b33024_3j b33024_4j b33024_5j b33024_6j b33024_7j b33024_8j b33024_9j b33024_10j b33024_11j b33024_12j b33024_13j b33024_14j b33024_15j b33024_16j b33024_17j b33024_18j l1036864j =>
 CS (α :=Bool×Bool×Int×Int×List Bs×List Bs×(List (Bs×Bs))×Int×Int×Int×List Yq1×Bool×List Yq1×List Yq1×Bs×Bs×List Yq2×List Yq2×(List (Bs×Bool×Bs))×List (Bs×Bool×Bs)) (fun j13 =>
 chk ((!(decide (b33024_7j≥0)))||(!(!(decide (b33024_7j≥0))))) <|
 chk ((!(decide (b33024_7j≥0)))||(!(!(decide (b33024_7j≥0))))) <|
 chk (bif decide (b33024_7j≥0)then true else !(decide (b33024_7j≥0))) <|
 chk (bif decide (b33024_7j≥0)then true else true) <|
 let x144:Bool:=bif decide (b33024_7j≥0)then true else decide (b33024_8j≥0)
 bif x144 then(CS (α :=Bs×Bool×Bool×Int×Int×List Bs×List Bs×(List (Bs×Bs))×Int×Int×Int×List Yq1×Bool×List Yq1×List Yq1×Bs×Bs×List Yq2×List Yq2×(List (Bs×Bool×Bs))×List (Bs×Bool×Bs)) (fun j14 =>
 bif decide (b33024_7j≥0)then(Ad (DF N 128 b33024_7j) fun r150 =>
 j14 (r150,b33024_0j,b33024_1j,b33024_2j,b33024_3j,b33024_4j,b33024_5j,b33024_6j,b33024_7j,b33024_8j,b33024_9j,b33024_10j,b33024_11j,b33024_12j,b33024_13j,b33024_14j,b33024_15j,b33024_16j,b33024_17j,b33024_18j,l1036864j))
 else(j14 (([]:Bs),b33024_0j,b33024_1j,b33024_2j,b33024_3j,b33024_4j,b33024_5j,b33024_6j,b33024_7j,b33024_8j,b33024_9j,b33024_10j,b33024_11j,b33024_12j,b33024_13j,b33024_14j,b33024_15j,b33024_16j,b33024_17j,b33024_18j,l1036864j)))
 (U21 fun t16n b33024_0n b33024_1n b33024_2n b33024_3n b33024_4n b33024_5n b33024_6n b33024_7n b33024_8n b33024_9n b33024_10n b33024_11n b33024_12n b33024_13n b33024_14n b33024_15n b33024_16n b33024_17n b33024_18n l1036864n =>
 CS (α :=Bs×Bool×Bool×Int×Int×List Bs×List Bs×(List (Bs×Bs))×Int×Int×Int×List Yq1×Bool×List Yq1×List Yq1×Bs×Bs×List Yq2×List Yq2×(List (Bs×Bool×Bs))×List (Bs×Bool×Bs)) (fun j15 =>
 bif decide (b33024_8n≥0)then(Ad (DF N 129 b33024_8n) fun r157 =>
 chk (decide (t16n.length+r157.length≤140737488355328)) <|
 j15 (t16n++r157,b33024_0n,b33024_1n,b33024_2n,b33024_3n,b33024_4n,b33024_5n,b33024_6n,b33024_7n,b33024_8n,b33024_9n,b33024_10n,b33024_11n,b33024_12n,b33024_13n,b33024_14n,b33024_15n,b33024_16n,b33024_17n,b33024_18n,l1036864n))
 else(j15 (t16n,b33024_0n,b33024_1n,b33024_2n,b33024_3n,b33024_4n,b33024_5n,b33024_6n,b33024_7n,b33024_8n,b33024_9n,b33024_10n,b33024_11n,b33024_12n,b33024_13n,b33024_14n,b33024_15n,b33024_16n,b33024_17n,b33024_18n,l1036864n)))
 (U21 fun t16o b33024_0o b33024_1o b33024_2o b33024_3o b33024_4o b33024_5o b33024_6o b33024_7o b33024_8o b33024_9o b33024_10o b33024_11o b33024_12o b33024_13o b33024_14o b33024_15o b33024_16o b33024_17o b33024_18o l1036864o =>
 Ad (AP N 48 ([t16o]:List Bs)) fun r162 =>
 chk (decide ((l1036864o.length+1)*41≤140737488355328)) <|
 let y75008:List (Bs×Bool×Bs):=l1036864o++([(([50,46,53,46,50,57,46,51,54]:Bs),true,r162)]:List (Bs×Bool×Bs))
 j13 (b33024_0o,b33024_1o,b33024_2o,b33024_3o,b33024_4o,b33024_5o,b33024_6o,b33024_7o,b33024_8o,b33024_9o,b33024_10o,b33024_11o,b33024_12o,b33024_13o,b33024_14o,b33024_15o,b33024_16o,b33024_17o,b33024_18o,y75008))))
 else(j13 (b33024_0j,b33024_1j,b33024_2j,b33024_3j,b33024_4j,b33024_5j,b33024_6j,b33024_7j,b33024_8j,b33024_9j,b33024_10j,b33024_11j,b33024_12j,b33024_13j,b33024_14j,b33024_15j,b33024_16j,b33024_17j,b33024_18j,l1036864j)))
 (U20 fun b33024_0m b33024_1m b33024_2m b33024_3m b33024_4m b33024_5m b33024_6m b33024_7m b33024_8m b33024_9m b33024_10m b33024_11m b33024_12m b33024_13m b33024_14m b33024_15m b33024_16m b33024_17m b33024_18m l1049152m =>
 CS (α :=Bool×Bool×Int×Int×List Bs×List Bs×(List (Bs×Bs))×Int×Int×Int×List Yq1×Bool×List Yq1×List Yq1×Bs×Bs×List Yq2×List Yq2×(List (Bs×Bool×Bs))×List (Bs×Bool×Bs)) (fun j16 =>
 bif decide (b33024_9m≥0)then(Ad (DF N 2 b33024_9m) fun r172 =>
 chk (decide ((l1049152m.length+1)*41≤140737488355328)) <|
 let y77568:List (Bs×Bool×Bs):=l1049152m++([(([50,46,53,46,50,57,46,53,52]:Bs),true,r172)]:List (Bs×Bool×Bs))
 j16 (b33024_0m,b33024_1m,b33024_2m,b33024_3m,b33024_4m,b33024_5m,b33024_6m,b33024_7m,b33024_8m,b33024_9m,b33024_10m,b33024_11m,b33024_12m,b33024_13m,b33024_14m,b33024_15m,b33024_16m,b33024_17m,b33024_18m,y77568))
 else(j16 (b33024_0m,b33024_1m,b33024_2m,b33024_3m,b33024_4m,b33024_5m,b33024_6m,b33024_7m,b33024_8m,b33024_9m,b33024_10m,b33024_11m,b33024_12m,b33024_13m,b33024_14m,b33024_15m,b33024_16m,b33024_17m,b33024_18m,l1049152m)))
 (U20 fun b33024_0p b33024_1p b33024_2p b33024_3p b33024_4p b33024_5p b33024_6p b33024_7p b33024_8p b33024_9p b33024_10p b33024_11p b33024_12p b33024_13p b33024_14p b33024_15p b33024_16p b33024_17p b33024_18p l1061440p =>
 CS (α :=Bool×Bool×Int×Int×List Bs×List Bs×(List (Bs×Bs))×Int×Int×Int×List Yq1×Bool×List Yq1×List Yq1×Bs×Bs×List Yq2×List Yq2×(List (Bs×Bool×Bs))×List (Bs×Bool×Bs)) (fun j17 =>
 bif decide ((b33024_10p.length:Int)>0)then(Ad (Fq N b33024_10p) fun r183 =>
 Ad (AP N 48 ([r183.1]:List Bs)) fun r189 =>
 chk (decide ((l1061440p.length+1)*41≤140737488355328)) <|
 let y81920:List (Bs×Bool×Bs):=l1061440p++([(([50,46,53,46,50,57,46,49,55]:Bs),false,r189)]:List (Bs×Bool×Bs))
 j17 (b33024_0p,b33024_1p,b33024_2p,b33024_3p,b33024_4p,b33024_5p,b33024_6p,b33024_7p,b33024_8p,b33024_9p,b33024_10p,b33024_11p,b33024_12p,b33024_13p,b33024_14p,b33024_15p,b33024_16p,b33024_17p,b33024_18p,y81920))
 else(j17 (b33024_0p,b33024_1p,b33024_2p,b33024_3p,b33024_4p,b33024_5p,b33024_6p,b33024_7p,b33024_8p,b33024_9p,b33024_10p,b33024_11p,b33024_12p,b33024_13p,b33024_14p,b33024_15p,b33024_16p,b33024_17p,b33024_18p,l1061440p)))
 (U20 fun b33024_0q b33024_1q b33024_2q b33024_3q b33024_4q b33024_5q b33024_6q b33024_7q b33024_8q b33024_9q b33024_10q b33024_11q b33024_12q b33024_13q b33024_14q b33024_15q b33024_16q b33024_17q b33024_18q l1065536q =>
 CS (α :=Bool×Bool×Int×Int×List Bs×List Bs×(List (Bs×Bs))×Int×Int×Int×List Yq1×Bool×List Yq1×List Yq1×Bs×Bs×List Yq2×List Yq2×(List (Bs×Bool×Bs))×List (Bs×Bool×Bs)) (fun j18 =>
 bif b33024_11q then(Ad (EE N (b33024_12q,b33024_13q)) fun r198 =>
 bif (r198.2 != 0)then(some (([]:List (Bs×Bool×Bs)),r198.2))
 else(chk (decide ((l1065536q.length+1)*41≤140737488355328)) <|
 let y86016:List (Bs×Bool×Bs):=l1065536q++([(([50,46,53,46,50,57,46,51,48]:Bs),true,r198.1)]:List (Bs×Bool×Bs))
 j18 (b33024_0q,b33024_1q,b33024_2q,b33024_3q,b33024_4q,b33024_5q,b33024_6q,b33024_7q,b33024_8q,b33024_9q,b33024_10q,b33024_11q,b33024_12q,b33024_13q,b33024_14q,b33024_15q,b33024_16q,b33024_17q,b33024_18q,y86016)))
 else(j18 (b33024_0q,b33024_1q,b33024_2q,b33024_3q,b33024_4q,b33024_5q,b33024_6q,b33024_7q,b33024_8q,b33024_9q,b33024_10q,b33024_11q,b33024_12q,b33024_13q,b33024_14q,b33024_15q,b33024_16q,b33024_17q,b33024_18q,l1065536q)))
 (U20 fun b33024_0r b33024_1r b33024_2r b33024_3r b33024_4r b33024_5r b33024_6r b33024_7r b33024_8r b33024_9r b33024_10r b33024_11r b33024_12r b33024_13r b33024_14r b33024_15r b33024_16r b33024_17r b33024_18r l1069632r =>
 CS (α :=Bool×Bool×Int×Int×List Bs×List Bs×(List (Bs×Bs))×Int×Int×Int×List Yq1×Bool×List Yq1×List Yq1×Bs×Bs×List Yq2×List Yq2×(List (Bs×Bool×Bs))×List (Bs×Bool×Bs)) (fun j19 =>
 bif !(b33024_14r==([]:Bs))then(Ad (AP N 4 ([b33024_14r]:List Bs)) fun r216 =>
 chk (decide ((l1069632r.length+1)*41≤140737488355328)) <|
 let y88832:List (Bs×Bool×Bs):=l1069632r++([(([50,46,53,46,50,57,46,49,52]:Bs),false,r216)]:List (Bs×Bool×Bs))
 j19 (b33024_0r,b33024_1r,b33024_2r,b33024_3r,b33024_4r,b33024_5r,b33024_6r,b33024_7r,b33024_8r,b33024_9r,b33024_10r,b33024_11r,b33024_12r,b33024_13r,b33024_14r,b33024_15r,b33024_16r,b33024_17r,b33024_18r,y88832))
 else(j19 (b33024_0r,b33024_1r,b33024_2r,b33024_3r,b33024_4r,b33024_5r,b33024_6r,b33024_7r,b33024_8r,b33024_9r,b33024_10r,b33024_11r,b33024_12r,b33024_13r,b33024_14r,b33024_15r,b33024_16r,b33024_17r,b33024_18r,l1069632r)))
 (U20 fun b33024_0s b33024_1s b33024_2s b33024_3s b33024_4s b33024_5s b33024_6s b33024_7s b33024_8s b33024_9s b33024_10s b33024_11s b33024_12s b33024_13s b33024_14s b33024_15s b33024_16s b33024_17s b33024_18s l1073728s =>
 CS (α :=Bool×Bool×Int×Int×List Bs×List Bs×(List (Bs×Bs))×Int×Int×Int×List Yq1×Bool×List Yq1×List Yq1×Bs×Bs×List Yq2×List Yq2×(List (Bs×Bool×Bs))×List (Bs×Bool×Bs)) (fun j20 =>
 bif !(b33024_15s==([]:Bs))then(Ad (AP N 128 ([b33024_15s]:List Bs)) fun r227 =>
 Ad (AP N 48 ([r227]:List Bs)) fun r229 =>
 chk (decide ((l1073728s.length+1)*41≤140737488355328)) <|
 let y92160:List (Bs×Bool×Bs):=l1073728s++([(([50,46,53,46,50,57,46,51,53]:Bs),false,r229)]:List (Bs×Bool×Bs))
 j20 (b33024_0s,b33024_1s,b33024_2s,b33024_3s,b33024_4s,b33024_5s,b33024_6s,b33024_7s,b33024_8s,b33024_9s,b33024_10s,b33024_11s,b33024_12s,b33024_13s,b33024_14s,b33024_15s,b33024_16s,b33024_17s,b33024_18s,y92160))
 else(j20 (b33024_0s,b33024_1s,b33024_2s,b33024_3s,b33024_4s,b33024_5s,b33024_6s,b33024_7s,b33024_8s,b33024_9s,b33024_10s,b33024_11s,b33024_12s,b33024_13s,b33024_14s,b33024_15s,b33024_16s,b33024_17s,b33024_18s,l1073728s)))
 (U20 fun b33024_0t b33024_1t b33024_2t b33024_3t b33024_4t b33024_5t b33024_6t b33024_7t b33024_8t b33024_9t b33024_10t b33024_11t b33024_12t b33024_13t b33024_14t b33024_15t b33024_16t b33024_17t b33024_18t l1077824t =>
 Ak (X:=Int×Bool×Bool×Int×Int×List Bs×List Bs×(List (Bs×Bs))×Int×Int×Int×List Yq1×Bool×List Yq1×List Yq1×Bs×Bs×List Yq2×List Yq2×(List (Bs×Bool×Bs))×List (List Yq2)×List (Bs×Bool×Bs)) (Y:=(Bool×Bool×Int×Int×List Bs×List Bs×(List (Bs×Bs))×Int×Int×Int×List Yq1×Bool×List Yq1×List Yq1×Bs×Bs×List Yq2×List Yq2×(List (Bs×Bool×Bs))×List (Bs×Bool×Bs))) (U22 fun t239u b33024_0u b33024_1u b33024_2u b33024_3u b33024_4u b33024_5u b33024_6u b33024_7u b33024_8u b33024_9u b33024_10u b33024_11u b33024_12u b33024_13u b33024_14u b33024_15u b33024_16u b33024_17u b33024_18u l93440u l1077824u k21 x22 =>
 bif decide (t239u<2)then(chk (decide (0≤t239u)) <|
 chk (decide (t239u<(l93440u.length:Int))) <|
 chk (decide (t239u.toNat<l93440u.length)) <|
 let x246:Bool:=(((l93440u.getD t239u.toNat ([]:List Yq2)).length:Int)==0)
 bif x246 then(k21 (i64.wrap (t239u+1),b33024_0u,b33024_1u,b33024_2u,b33024_3u,b33024_4u,b33024_5u,b33024_6u,b33024_7u,b33024_8u,b33024_9u,b33024_10u,b33024_11u,b33024_12u,b33024_13u,b33024_14u,b33024_15u,b33024_16u,b33024_17u,b33024_18u,l93440u,l1077824u))
 else(Ad (Dt N (l93440u.getD t239u.toNat ([]:List Yq2))) fun r249 =>
 bif (r249.2 != 0)then(some (([]:List (Bs×Bool×Bs)),r249.2))
 else(chk (decide (0≤t239u)) <|
 chk (decide (t239u<2)) <|
 chk (decide (t239u.toNat<2)) <|
 let x259:Bs:=(([([50,46,53,46,50,57,46,51,49]:Bs),([50,46,53,46,50,57,46,52,54]:Bs)]:List Bs).getD t239u.toNat ([]:Bs))
 chk (decide ((l1077824u.length+1)*41≤140737488355328)) <|
 k21 (i64.wrap (t239u+1),b33024_0u,b33024_1u,b33024_2u,b33024_3u,b33024_4u,b33024_5u,b33024_6u,b33024_7u,b33024_8u,b33024_9u,b33024_10u,b33024_11u,b33024_12u,b33024_13u,b33024_14u,b33024_15u,b33024_16u,b33024_17u,b33024_18u,l93440u,l1077824u++([(x259,false,r249.1)]:List (Bs×Bool×Bs))))))
 else(x22 (b33024_0u,b33024_1u,b33024_2u,b33024_3u,b33024_4u,b33024_5u,b33024_6u,b33024_7u,b33024_8u,b33024_9u,b33024_10u,b33024_11u,b33024_12u,b33024_13u,b33024_14u,b33024_15u,b33024_16u,b33024_17u,b33024_18u,l1077824u)))
 N (0,b33024_0t,b33024_1t,b33024_2t,b33024_3t,b33024_4t,b33024_5t,b33024_6t,b33024_7t,b33024_8t,b33024_9t,b33024_10t,b33024_11t,b33024_12t,b33024_13t,b33024_14t,b33024_15t,b33024_16t,b33024_17t,b33024_18t,([b33024_16t,b33024_17t]:List (List Yq2)),l1077824t) (U20 fun b33024_0v b33024_1v b33024_2v b33024_3v b33024_4v b33024_5v b33024_6v b33024_7v b33024_8v b33024_9v b33024_10v b33024_11v b33024_12v b33024_13v b33024_14v b33024_15v b33024_16v b33024_17v b33024_18v l1077824v =>
 chk (decide ((l1077824v.length+b33024_18v.length)*41≤140737488355328)) <|
 some (l1077824v++b33024_18v,0))))))))))))))
abbrev Xb:Type:=Bool
def Cc (N:Nat) (p0:Yq3) (p1:Yq3):Option Xb :=
 bif ((p0.length:Int) != (p1.length:Int))then(some false)
 else(Ak (X:=Int) (Y:=Unit) (fun t13a k1 x2 =>
 bif decide (t13a<(p0.length:Int))then(chk (decide (0≤t13a)) <|
 chk (decide (t13a<(p0.length:Int))) <|
 chk (decide (0≤t13a)) <|
 chk (decide (t13a<(p1.length:Int))) <|
 let x24:Bool:= !((((p0.getD t13a.toNat (([]:Bs),false,([]:Bs))).1)==((p1.getD t13a.toNat (([]:Bs),false,([]:Bs))).1))&&((((p0.getD t13a.toNat (([]:Bs),false,([]:Bs))).2.1)==((p1.getD t13a.toNat (([]:Bs),false,([]:Bs))).2.1))&&((((p0.getD t13a.toNat (([]:Bs),false,([]:Bs))).2.2)==((p1.getD t13a.toNat (([]:Bs),false,([]:Bs))).2.2))&&true)))
 bif x24 then(some false)
 else(k1 (i64.wrap (t13a+1))))
 else(x2 ()))
 N 0 (fun _ =>
 some true))
abbrev wG:Type:=Bool
def Jf (N:Nat) (p0:List Yq0) (p1:List Yq0):Option wG :=
 bif ((p0.length:Int) != (p1.length:Int))then(some false)
 else(Ak (X:=Int×List Yq0×List Yq0) (Y:=Unit) (U3 fun t21a b33280_0a b33536_0a k1 x2 =>
 bif decide (t21a<(p0.length:Int))then(chk (decide (0≤t21a)) <|
 chk (decide (t21a<(b33280_0a.length:Int))) <|
 chk (decide (0≤t21a)) <|
 chk (decide (t21a<(b33536_0a.length:Int))) <|
 let x36:Bool:=(((b33280_0a.getD t21a.toNat ([]:List (Bs×Int×Bs))).length:Int) != ((b33536_0a.getD t21a.toNat ([]:List (Bs×Int×Bs))).length:Int))
 bif x36 then(some false)
 else(chk (decide (0≤t21a)) <|
 chk (decide (t21a<(b33280_0a.length:Int))) <|
 Ak (X:=Int×List Yq0×List Yq0) (Y:=(List Yq0×List Yq0)) (U3 fun t43b b33280_0b b33536_0b k3 x4 =>
 let x44:Bool:=decide (t43b<((b33280_0a.getD t21a.toNat ([]:List (Bs×Int×Bs))).length:Int))
 bif x44 then(chk (decide (0≤t43b)) <|
 chk (decide (t43b<((b33280_0a.getD t21a.toNat ([]:List (Bs×Int×Bs))).length:Int))) <|
 chk (decide (0≤t21a)) <|
 chk (decide (t21a<(b33536_0b.length:Int))) <|
 Ak (X:=Bool×Int×List Yq0×List Yq0×Bs×Int×Bs) (Y:=(Bool×List Yq0×List Yq0)) (U7 fun t8c t53c b33280_0c b33536_0c b34560_0c b34560_1c b34560_2c k5 x6 =>
 let x54:Bool:=decide (t53c<((b33536_0b.getD t21a.toNat ([]:List (Bs×Int×Bs))).length:Int))
 bif x54 then(chk (decide (0≤t53c)) <|
 chk (decide (t53c<((b33536_0b.getD t21a.toNat ([]:List (Bs×Int×Bs))).length:Int))) <|
 chk (!t8c|| !!t8c) <|
 chk (!t8c|| !!t8c) <|
 let x61:Bool:=((b34560_0c==(((b33536_0b.getD t21a.toNat ([]:List (Bs×Int×Bs))).getD t53c.toNat (([]:Bs),0,([]:Bs))).1))&&((b34560_1c==(((b33536_0b.getD t21a.toNat ([]:List (Bs×Int×Bs))).getD t53c.toNat (([]:Bs),0,([]:Bs))).2.1))&&((b34560_2c==(((b33536_0b.getD t21a.toNat ([]:List (Bs×Int×Bs))).getD t53c.toNat (([]:Bs),0,([]:Bs))).2.2))&&true)))
 chk (bif t8c then true else !t8c) <|
 chk (bif t8c then true else true) <|
 k5 (bif t8c then true else x61,i64.wrap (t53c+1),b33280_0c,b33536_0c,b34560_0c,b34560_1c,b34560_2c))
 else(x6 (t8c,b33280_0c,b33536_0c)))
 N (false,0,b33280_0b,b33536_0b,((b33280_0a.getD t21a.toNat ([]:List (Bs×Int×Bs))).getD t43b.toNat (([]:Bs),0,([]:Bs))).1,((b33280_0a.getD t21a.toNat ([]:List (Bs×Int×Bs))).getD t43b.toNat (([]:Bs),0,([]:Bs))).2.1,((b33280_0a.getD t21a.toNat ([]:List (Bs×Int×Bs))).getD t43b.toNat (([]:Bs),0,([]:Bs))).2.2) (U3 fun t8d b33280_0d b33536_0d =>
 bif !t8d then(some false)
 else(k3 (i64.wrap (t43b+1),b33280_0d,b33536_0d))))
 else(x4 (b33280_0b,b33536_0b)))
 N (0,b33280_0a,b33536_0a) (U2 fun b33280_0e b33536_0e =>
 k1 (i64.wrap (t21a+1),b33280_0e,b33536_0e))))
 else(x2 ()))
 N (0,p0,p1) (fun _ =>
 some true))
abbrev ZA:Type:=Bool
def DD (N:Nat) (p0:List Yq1) (p1:List Yq1):Option ZA :=
 bif ((p0.length:Int) != (p1.length:Int))then(some false)
 else(Ak (X:=Int) (Y:=Unit) (fun t13a k1 x2 =>
 bif decide (t13a<(p0.length:Int))then(chk (decide (0≤t13a)) <|
 chk (decide (t13a<(p0.length:Int))) <|
 chk (decide (0≤t13a)) <|
 chk (decide (t13a<(p1.length:Int))) <|
 let x26:Bool:=(((p0.getD t13a.toNat (0,([]:Bs),([]:List Yq0))).1) != ((p1.getD t13a.toNat (0,([]:Bs),([]:List Yq0))).1))
 chk (!x26|| !!x26) <|
 chk (!x26|| !!x26) <|
 chk ((decide (0≤t13a))||(!!x26)) <|
 chk ((decide (t13a<(p0.length:Int)))||(!!x26)) <|
 chk (!x26|| !!x26) <|
 chk (!x26|| !!x26) <|
 chk (!x26|| !!x26) <|
 chk (!x26|| !!x26) <|
 chk ((decide (0≤t13a))||(!!x26)) <|
 chk ((decide (t13a<(p1.length:Int)))||(!!x26)) <|
 chk (!x26|| !!x26) <|
 chk (!x26|| !!x26) <|
 chk (!x26|| !!x26) <|
 chk (!x26|| !!x26) <|
 let x38:Bool:= !(((p0.getD t13a.toNat (0,([]:Bs),([]:List Yq0))).2.1)==((p1.getD t13a.toNat (0,([]:Bs),([]:List Yq0))).2.1))
 chk (bif x26 then true else !x26) <|
 chk (bif x26 then true else true) <|
 chk ((!(bif x26 then true else x38))||(!(!(bif x26 then true else x38)))) <|
 chk ((!(bif x26 then true else x38))||(!(!(bif x26 then true else x38)))) <|
 chk ((decide (0≤t13a))||(!(!(bif x26 then true else x38)))) <|
 chk ((decide (t13a<(p0.length:Int)))||(!(!(bif x26 then true else x38)))) <|
 chk ((!(bif x26 then true else x38))||(!(!(bif x26 then true else x38)))) <|
 chk ((!(bif x26 then true else x38))||(!(!(bif x26 then true else x38)))) <|
 chk ((!(bif x26 then true else x38))||(!(!(bif x26 then true else x38)))) <|
 chk ((!(bif x26 then true else x38))||(!(!(bif x26 then true else x38)))) <|
 chk ((decide (0≤t13a))||(!(!(bif x26 then true else x38)))) <|
 chk ((decide (t13a<(p1.length:Int)))||(!(!(bif x26 then true else x38)))) <|
 chk ((!(bif x26 then true else x38))||(!(!(bif x26 then true else x38)))) <|
 chk ((!(bif x26 then true else x38))||(!(!(bif x26 then true else x38)))) <|
 chk ((!(bif x26 then true else x38))||(!(!(bif x26 then true else x38)))) <|
 chk ((!(bif x26 then true else x38))||(!(!(bif x26 then true else x38)))) <|
 chk (((Jf N ((p0.getD t13a.toNat (0,([]:Bs),([]:List Yq0))).2.2) ((p1.getD t13a.toNat (0,([]:Bs),([]:List Yq0))).2.2)).isSome)||(!(!(bif x26 then true else x38)))) <|
 let r51:=(Jf N ((p0.getD t13a.toNat (0,([]:Bs),([]:List Yq0))).2.2) ((p1.getD t13a.toNat (0,([]:Bs),([]:List Yq0))).2.2)).getD default
 chk ((!(bif x26 then true else x38))||(!(!(bif x26 then true else x38)))) <|
 chk (bif bif x26 then true else x38 then true else !(bif x26 then true else x38)) <|
 chk (bif bif x26 then true else x38 then true else true) <|
 bif bif bif x26 then true else x38 then true else !r51 then(some false)
 else(k1 (i64.wrap (t13a+1))))
 else(x2 ()))
 N 0 (fun _ =>
 some true))
abbrev kW:Type:=Bool
def Fv (N:Nat) (p0:List Yq2) (p1:List Yq2):Option kW :=
 bif ((p0.length:Int) != (p1.length:Int))then(some false)
 else(Ak (X:=Int) (Y:=Unit) (fun t13a k1 x2 =>
 bif decide (t13a<(p0.length:Int))then(chk (decide (0≤t13a)) <|
 chk (decide (t13a<(p0.length:Int))) <|
 chk (decide (0≤t13a)) <|
 chk (decide (t13a<(p1.length:Int))) <|
 Ad (DD N ((p0.getD t13a.toNat (([]:List Yq1),0,false,([]:List Yq0))).1) ((p1.getD t13a.toNat (([]:List Yq1),0,false,([]:List Yq0))).1)) fun r26 =>
 Af (!r26) fun b3 =>
 chk (!b3|| !!b3) <|
 chk (!b3|| !!b3) <|
 chk ((decide (0≤t13a))||(!!b3)) <|
 chk ((decide (t13a<(p0.length:Int)))||(!!b3)) <|
 chk (!b3|| !!b3) <|
 chk (!b3|| !!b3) <|
 chk (!b3|| !!b3) <|
 chk (!b3|| !!b3) <|
 chk ((decide (0≤t13a))||(!!b3)) <|
 chk ((decide (t13a<(p1.length:Int)))||(!!b3)) <|
 chk (!b3|| !!b3) <|
 chk (!b3|| !!b3) <|
 chk (!b3|| !!b3) <|
 chk (!b3|| !!b3) <|
 let x39:Bool:=(((p0.getD t13a.toNat (([]:List Yq1),0,false,([]:List Yq0))).2.1) != ((p1.getD t13a.toNat (([]:List Yq1),0,false,([]:List Yq0))).2.1))
 chk (bif b3 then true else !b3) <|
 chk (bif b3 then true else true) <|
 Af (bif b3 then true else x39) fun b4 =>
 Af (b4) fun b5 =>
 chk (!b5|| !!b5) <|
 chk (!b5|| !!b5) <|
 chk ((decide (0≤t13a))||(!!b5)) <|
 chk ((decide (t13a<(p0.length:Int)))||(!!b5)) <|
 chk (!b5|| !!b5) <|
 chk (!b5|| !!b5) <|
 let x46:Bool:=(p0.getD t13a.toNat (([]:List Yq1),0,false,([]:List Yq0))).2.2.1
 chk (!b5|| !!b5) <|
 chk (!b5|| !!b5) <|
 chk ((decide (0≤t13a))||(!!b5)) <|
 chk ((decide (t13a<(p1.length:Int)))||(!!b5)) <|
 chk (!b5|| !!b5) <|
 chk (!b5|| !!b5) <|
 let x51:Bool:=(p1.getD t13a.toNat (([]:List Yq1),0,false,([]:List Yq0))).2.2.1
 chk (!b5|| !!b5) <|
 chk (!b5|| !!b5) <|
 chk (bif b5 then true else !b5) <|
 chk (bif b5 then true else true) <|
 Af (bif b5 then true else !(x46==x51)) fun b6 =>
 Af (b6) fun b7 =>
 chk (!b7|| !!b7) <|
 chk (!b7|| !!b7) <|
 chk ((decide (0≤t13a))||(!!b7)) <|
 chk ((decide (t13a<(p0.length:Int)))||(!!b7)) <|
 chk (!b7|| !!b7) <|
 chk (!b7|| !!b7) <|
 chk (!b7|| !!b7) <|
 chk (!b7|| !!b7) <|
 chk ((decide (0≤t13a))||(!!b7)) <|
 chk ((decide (t13a<(p1.length:Int)))||(!!b7)) <|
 chk (!b7|| !!b7) <|
 chk (!b7|| !!b7) <|
 chk (!b7|| !!b7) <|
 chk (!b7|| !!b7) <|
 chk (((Jf N ((p0.getD t13a.toNat (([]:List Yq1),0,false,([]:List Yq0))).2.2.2) ((p1.getD t13a.toNat (([]:List Yq1),0,false,([]:List Yq0))).2.2.2)).isSome)||(!!b7)) <|
 let r65:=(Jf N ((p0.getD t13a.toNat (([]:List Yq1),0,false,([]:List Yq0))).2.2.2) ((p1.getD t13a.toNat (([]:List Yq1),0,false,([]:List Yq0))).2.2.2)).getD default
 chk (!b7|| !!b7) <|
 chk (bif b7 then true else !b7) <|
 chk (bif b7 then true else true) <|
 Af (bif b7 then true else !r65) fun b8 =>
 bif b8 then(some false)
 else(k1 (i64.wrap (t13a+1))))
 else(x2 ()))
 N 0 (fun _ =>
 some true))
abbrev pF:Type:=Bool
def Ii (N:Nat) (p0:List Yq0) (p1:List Yq0):Option pF :=
 bif ((p0.length:Int) != (p1.length:Int))then(some false)
 else(Ak (X:=Int×List Yq0×List Yq0) (Y:=Unit) (U3 fun t17a b33280_0a b33536_0a k1 x2 =>
 bif decide (t17a<(p0.length:Int))then(chk (decide (0≤t17a)) <|
 chk (decide (t17a<(b33280_0a.length:Int))) <|
 chk (decide (0≤t17a)) <|
 chk (decide (t17a<(b33536_0a.length:Int))) <|
 let x32:Bool:=(((b33280_0a.getD t17a.toNat ([]:List (Bs×Int×Bs))).length:Int) != ((b33536_0a.getD t17a.toNat ([]:List (Bs×Int×Bs))).length:Int))
 bif x32 then(some false)
 else(chk (decide (0≤t17a)) <|
 chk (decide (t17a<(b33280_0a.length:Int))) <|
 Ak (X:=Int×List Yq0×List Yq0) (Y:=(List Yq0×List Yq0)) (U3 fun t39b b33280_0b b33536_0b k3 x4 =>
 let x40:Bool:=decide (t39b<((b33280_0a.getD t17a.toNat ([]:List (Bs×Int×Bs))).length:Int))
 bif x40 then(chk (decide (0≤t17a)) <|
 chk (decide (t17a<(b33280_0b.length:Int))) <|
 chk (decide (0≤t39b)) <|
 chk (decide (t39b<((b33280_0b.getD t17a.toNat ([]:List (Bs×Int×Bs))).length:Int))) <|
 chk (decide (0≤t17a)) <|
 chk (decide (t17a<(b33536_0b.length:Int))) <|
 chk (decide (0≤t39b)) <|
 chk (decide (t39b<((b33536_0b.getD t17a.toNat ([]:List (Bs×Int×Bs))).length:Int))) <|
 let x58:Bool:= !(((((b33280_0b.getD t17a.toNat ([]:List (Bs×Int×Bs))).getD t39b.toNat (([]:Bs),0,([]:Bs))).1)==(((b33536_0b.getD t17a.toNat ([]:List (Bs×Int×Bs))).getD t39b.toNat (([]:Bs),0,([]:Bs))).1))&&(((((b33280_0b.getD t17a.toNat ([]:List (Bs×Int×Bs))).getD t39b.toNat (([]:Bs),0,([]:Bs))).2.1)==(((b33536_0b.getD t17a.toNat ([]:List (Bs×Int×Bs))).getD t39b.toNat (([]:Bs),0,([]:Bs))).2.1))&&(((((b33280_0b.getD t17a.toNat ([]:List (Bs×Int×Bs))).getD t39b.toNat (([]:Bs),0,([]:Bs))).2.2)==(((b33536_0b.getD t17a.toNat ([]:List (Bs×Int×Bs))).getD t39b.toNat (([]:Bs),0,([]:Bs))).2.2))&&true)))
 bif x58 then(some false)
 else(k3 (i64.wrap (t39b+1),b33280_0b,b33536_0b)))
 else(x4 (b33280_0b,b33536_0b)))
 N (0,b33280_0a,b33536_0a) (U2 fun b33280_0c b33536_0c =>
 k1 (i64.wrap (t17a+1),b33280_0c,b33536_0c))))
 else(x2 ()))
 N (0,p0,p1) (fun _ =>
 some true))
abbrev Ym:Type:=Bool
def CY (N:Nat) (p0:List Yq1) (p1:List Yq1):Option Ym :=
 bif ((p0.length:Int) != (p1.length:Int))then(some false)
 else(Ak (X:=Int) (Y:=Unit) (fun t13a k1 x2 =>
 bif decide (t13a<(p0.length:Int))then(chk (decide (0≤t13a)) <|
 chk (decide (t13a<(p0.length:Int))) <|
 chk (decide (0≤t13a)) <|
 chk (decide (t13a<(p1.length:Int))) <|
 let x26:Bool:=(((p0.getD t13a.toNat (0,([]:Bs),([]:List Yq0))).1) != ((p1.getD t13a.toNat (0,([]:Bs),([]:List Yq0))).1))
 chk (!x26|| !!x26) <|
 chk (!x26|| !!x26) <|
 chk ((decide (0≤t13a))||(!!x26)) <|
 chk ((decide (t13a<(p0.length:Int)))||(!!x26)) <|
 chk (!x26|| !!x26) <|
 chk (!x26|| !!x26) <|
 chk (!x26|| !!x26) <|
 chk (!x26|| !!x26) <|
 chk ((decide (0≤t13a))||(!!x26)) <|
 chk ((decide (t13a<(p1.length:Int)))||(!!x26)) <|
 chk (!x26|| !!x26) <|
 chk (!x26|| !!x26) <|
 chk (!x26|| !!x26) <|
 chk (!x26|| !!x26) <|
 let x38:Bool:= !(((p0.getD t13a.toNat (0,([]:Bs),([]:List Yq0))).2.1)==((p1.getD t13a.toNat (0,([]:Bs),([]:List Yq0))).2.1))
 chk (bif x26 then true else !x26) <|
 chk (bif x26 then true else true) <|
 chk ((!(bif x26 then true else x38))||(!(!(bif x26 then true else x38)))) <|
 chk ((!(bif x26 then true else x38))||(!(!(bif x26 then true else x38)))) <|
 chk ((decide (0≤t13a))||(!(!(bif x26 then true else x38)))) <|
 chk ((decide (t13a<(p0.length:Int)))||(!(!(bif x26 then true else x38)))) <|
 chk ((!(bif x26 then true else x38))||(!(!(bif x26 then true else x38)))) <|
 chk ((!(bif x26 then true else x38))||(!(!(bif x26 then true else x38)))) <|
 chk ((!(bif x26 then true else x38))||(!(!(bif x26 then true else x38)))) <|
 chk ((!(bif x26 then true else x38))||(!(!(bif x26 then true else x38)))) <|
 chk ((decide (0≤t13a))||(!(!(bif x26 then true else x38)))) <|
 chk ((decide (t13a<(p1.length:Int)))||(!(!(bif x26 then true else x38)))) <|
 chk ((!(bif x26 then true else x38))||(!(!(bif x26 then true else x38)))) <|
 chk ((!(bif x26 then true else x38))||(!(!(bif x26 then true else x38)))) <|
 chk ((!(bif x26 then true else x38))||(!(!(bif x26 then true else x38)))) <|
 chk ((!(bif x26 then true else x38))||(!(!(bif x26 then true else x38)))) <|
 chk (((Ii N ((p0.getD t13a.toNat (0,([]:Bs),([]:List Yq0))).2.2) ((p1.getD t13a.toNat (0,([]:Bs),([]:List Yq0))).2.2)).isSome)||(!(!(bif x26 then true else x38)))) <|
 let r51:=(Ii N ((p0.getD t13a.toNat (0,([]:Bs),([]:List Yq0))).2.2) ((p1.getD t13a.toNat (0,([]:Bs),([]:List Yq0))).2.2)).getD default
 chk ((!(bif x26 then true else x38))||(!(!(bif x26 then true else x38)))) <|
 chk (bif bif x26 then true else x38 then true else !(bif x26 then true else x38)) <|
 chk (bif bif x26 then true else x38 then true else true) <|
 bif bif bif x26 then true else x38 then true else !r51 then(some false)
 else(k1 (i64.wrap (t13a+1))))
 else(x2 ()))
 N 0 (fun _ =>
 some true))
abbrev dK:Type:=Bool
def IJ (N:Nat) (p0:List Yq2) (p1:List Yq2):Option dK :=
 Ad (Fv N p0 p1) fun r8 =>
 bif !r8 then(some false)
 else(Ak (X:=Int) (Y:=Unit) (fun t12a k1 x2 =>
 bif decide (t12a<(p0.length:Int))then(chk (decide (0≤t12a)) <|
 chk (decide (t12a<(p0.length:Int))) <|
 chk (decide (0≤t12a)) <|
 chk (decide (t12a<(p1.length:Int))) <|
 Ad (CY N ((p0.getD t12a.toNat (([]:List Yq1),0,false,([]:List Yq0))).1) ((p1.getD t12a.toNat (([]:List Yq1),0,false,([]:List Yq0))).1)) fun r25 =>
 chk ((!!r25)||(!(!!r25))) <|
 chk ((!!r25)||(!(!!r25))) <|
 chk ((decide (0≤t12a))||(!(!!r25))) <|
 chk ((decide (t12a<(p0.length:Int)))||(!(!!r25))) <|
 chk ((!!r25)||(!(!!r25))) <|
 chk ((!!r25)||(!(!!r25))) <|
 chk ((!!r25)||(!(!!r25))) <|
 chk ((!!r25)||(!(!!r25))) <|
 chk ((decide (0≤t12a))||(!(!!r25))) <|
 chk ((decide (t12a<(p1.length:Int)))||(!(!!r25))) <|
 chk ((!!r25)||(!(!!r25))) <|
 chk ((!!r25)||(!(!!r25))) <|
 chk ((!!r25)||(!(!!r25))) <|
 chk ((!!r25)||(!(!!r25))) <|
 chk (((Ii N ((p0.getD t12a.toNat (([]:List Yq1),0,false,([]:List Yq0))).2.2.2) ((p1.getD t12a.toNat (([]:List Yq1),0,false,([]:List Yq0))).2.2.2)).isSome)||(!(!!r25))) <|
 let r38:=(Ii N ((p0.getD t12a.toNat (([]:List Yq1),0,false,([]:List Yq0))).2.2.2) ((p1.getD t12a.toNat (([]:List Yq1),0,false,([]:List Yq0))).2.2.2)).getD default
 chk ((!!r25)||(!(!!r25))) <|
 chk (bif !r25 then true else !(!r25)) <|
 chk (bif !r25 then true else true) <|
 bif bif !r25 then true else !r38 then(some false)
 else(k1 (i64.wrap (t12a+1))))
 else(x2 ()))
 N 0 (fun _ =>
 some true))
abbrev eH:Type:=Bool
def Gl (N:Nat) (p0:List Bs) (p1:List Bs):Option eH :=
 bif ((p0.length:Int) != (p1.length:Int))then(some false)
 else(Ak (X:=Int) (Y:=Unit) (fun t13a k1 x2 =>
 bif decide (t13a<(p0.length:Int))then(chk (decide (0≤t13a)) <|
 chk (decide (t13a<(p0.length:Int))) <|
 chk (decide (0≤t13a)) <|
 chk (decide (t13a<(p1.length:Int))) <|
 bif !((p0.getD t13a.toNat ([]:Bs))==(p1.getD t13a.toNat ([]:Bs)))then(some false)
 else(k1 (i64.wrap (t13a+1))))
 else(x2 ()))
 N 0 (fun _ =>
 some true))
abbrev ZM:Type:=Bool
def Ll (N:Nat) (p0:List (Bs×Bs)) (p1:List (Bs×Bs)):Option ZM :=
 bif ((p0.length:Int) != (p1.length:Int))then(some false)
 else(Ak (X:=Int) (Y:=Unit) (fun t13a k1 x2 =>
 bif decide (t13a<(p0.length:Int))then(chk (decide (0≤t13a)) <|
 chk (decide (t13a<(p0.length:Int))) <|
 chk (decide (0≤t13a)) <|
 chk (decide (t13a<(p1.length:Int))) <|
 let x24:Bool:= !((((p0.getD t13a.toNat (([]:Bs),([]:Bs))).1)==((p1.getD t13a.toNat (([]:Bs),([]:Bs))).1))&&((((p0.getD t13a.toNat (([]:Bs),([]:Bs))).2)==((p1.getD t13a.toNat (([]:Bs),([]:Bs))).2))&&true))
 bif x24 then(some false)
 else(k1 (i64.wrap (t13a+1))))
 else(x2 ()))
 N 0 (fun _ =>
 some true))
abbrev ZH:Type:=Bool
def Lh (N:Nat) (p0:Yq6) (p1:Yq6):Option ZH :=
 Ad (DD N p0.1 p1.1) fun r9 =>
 chk (r9||(!r9)) <|
 chk (r9||(!r9)) <|
 chk (r9||(!r9)) <|
 chk (r9||(!r9)) <|
 chk (((DD N p0.2 p1.2).isSome)||(!r9)) <|
 let r15:=(DD N p0.2 p1.2).getD default
 chk (bif r9 then r9 else true) <|
 chk (bif r9 then true else true) <|
 some (bif r9 then r15 else false)
abbrev wK:Type:=Bool
def Yt (N:Nat) (p0:Yq4) (p1:Yq4):Option wK :=
 Af (p0.1==p1.1) fun b1 =>
 chk (b1||(!b1)) <|
 chk (b1||(!b1)) <|
 chk (b1||(!b1)) <|
 chk (b1||(!b1)) <|
 chk (bif b1 then b1 else true) <|
 chk (bif b1 then true else true) <|
 Af (bif b1 then(p0.2.1==p1.2.1)else false) fun b2 =>
 Af (b2) fun b3 =>
 chk (b3||(!b3)) <|
 chk (b3||(!b3)) <|
 chk (b3||(!b3)) <|
 chk (b3||(!b3)) <|
 chk (bif b3 then b3 else true) <|
 chk (bif b3 then true else true) <|
 Af (bif b3 then(p0.2.2.1==p1.2.2.1)else false) fun b4 =>
 Af (b4) fun b5 =>
 chk (b5||(!b5)) <|
 chk (b5||(!b5)) <|
 chk (b5||(!b5)) <|
 chk (b5||(!b5)) <|
 chk (bif b5 then b5 else true) <|
 chk (bif b5 then true else true) <|
 Af (bif b5 then(p0.2.2.2.1==p1.2.2.2.1)else false) fun b6 =>
 Af (b6) fun b7 =>
 chk (b7||(!b7)) <|
 chk (b7||(!b7)) <|
 chk (b7||(!b7)) <|
 chk (b7||(!b7)) <|
 chk (((Gl N p0.2.2.2.2.1 p1.2.2.2.2.1).isSome)||(!b7)) <|
 let r36:=(Gl N p0.2.2.2.2.1 p1.2.2.2.2.1).getD default
 chk (bif b7 then b7 else true) <|
 chk (bif b7 then true else true) <|
 Af (bif b7 then r36 else false) fun b8 =>
 Af (b8) fun b9 =>
 chk (b9||(!b9)) <|
 chk (b9||(!b9)) <|
 chk (b9||(!b9)) <|
 chk (b9||(!b9)) <|
 chk (((Gl N p0.2.2.2.2.2.1 p1.2.2.2.2.2.1).isSome)||(!b9)) <|
 let r43:=(Gl N p0.2.2.2.2.2.1 p1.2.2.2.2.2.1).getD default
 chk (bif b9 then b9 else true) <|
 chk (bif b9 then true else true) <|
 Af (bif b9 then r43 else false) fun b10 =>
 Af (b10) fun b11 =>
 chk (b11||(!b11)) <|
 chk (b11||(!b11)) <|
 chk (b11||(!b11)) <|
 chk (b11||(!b11)) <|
 chk (((Ll N p0.2.2.2.2.2.2.1 p1.2.2.2.2.2.2.1).isSome)||(!b11)) <|
 let r50:=(Ll N p0.2.2.2.2.2.2.1 p1.2.2.2.2.2.2.1).getD default
 chk (bif b11 then b11 else true) <|
 chk (bif b11 then true else true) <|
 Af (bif b11 then r50 else false) fun b12 =>
 Af (b12) fun b13 =>
 chk (b13||(!b13)) <|
 chk (b13||(!b13)) <|
 chk (b13||(!b13)) <|
 chk (b13||(!b13)) <|
 chk (bif b13 then b13 else true) <|
 chk (bif b13 then true else true) <|
 Af (bif b13 then(p0.2.2.2.2.2.2.2.1==p1.2.2.2.2.2.2.2.1)else false) fun b14 =>
 Af (b14) fun b15 =>
 chk (b15||(!b15)) <|
 chk (b15||(!b15)) <|
 chk (b15||(!b15)) <|
 chk (b15||(!b15)) <|
 chk (bif b15 then b15 else true) <|
 chk (bif b15 then true else true) <|
 Af (bif b15 then(p0.2.2.2.2.2.2.2.2.1==p1.2.2.2.2.2.2.2.2.1)else false) fun b16 =>
 Af (b16) fun b17 =>
 chk (b17||(!b17)) <|
 chk (b17||(!b17)) <|
 chk (b17||(!b17)) <|
 chk (b17||(!b17)) <|
 chk (bif b17 then b17 else true) <|
 chk (bif b17 then true else true) <|
 Af (bif b17 then(p0.2.2.2.2.2.2.2.2.2.1==p1.2.2.2.2.2.2.2.2.2.1)else false) fun b18 =>
 Af (b18) fun b19 =>
 chk (b19||(!b19)) <|
 chk (b19||(!b19)) <|
 chk (b19||(!b19)) <|
 chk (b19||(!b19)) <|
 chk (((DD N p0.2.2.2.2.2.2.2.2.2.2.1 p1.2.2.2.2.2.2.2.2.2.2.1).isSome)||(!b19)) <|
 let r78:=(DD N p0.2.2.2.2.2.2.2.2.2.2.1 p1.2.2.2.2.2.2.2.2.2.2.1).getD default
 chk (bif b19 then b19 else true) <|
 chk (bif b19 then true else true) <|
 Af (bif b19 then r78 else false) fun b20 =>
 Af (b20) fun b21 =>
 chk (b21||(!b21)) <|
 chk (b21||(!b21)) <|
 chk (b21||(!b21)) <|
 chk (b21||(!b21)) <|
 chk (bif b21 then b21 else true) <|
 chk (bif b21 then true else true) <|
 Af (bif b21 then(p0.2.2.2.2.2.2.2.2.2.2.2.1==p1.2.2.2.2.2.2.2.2.2.2.2.1)else false) fun b22 =>
 Af (b22) fun b23 =>
 chk (b23||(!b23)) <|
 chk (b23||(!b23)) <|
 chk (b23||(!b23)) <|
 chk (b23||(!b23)) <|
 chk (((Lh N (p0.2.2.2.2.2.2.2.2.2.2.2.2.1,p0.2.2.2.2.2.2.2.2.2.2.2.2.2.1) (p1.2.2.2.2.2.2.2.2.2.2.2.2.1,p1.2.2.2.2.2.2.2.2.2.2.2.2.2.1)).isSome)||(!b23)) <|
 let r92:=(Lh N (p0.2.2.2.2.2.2.2.2.2.2.2.2.1,p0.2.2.2.2.2.2.2.2.2.2.2.2.2.1) (p1.2.2.2.2.2.2.2.2.2.2.2.2.1,p1.2.2.2.2.2.2.2.2.2.2.2.2.2.1)).getD default
 chk (bif b23 then b23 else true) <|
 chk (bif b23 then true else true) <|
 Af (bif b23 then r92 else false) fun b24 =>
 Af (b24) fun b25 =>
 chk (b25||(!b25)) <|
 chk (b25||(!b25)) <|
 chk (b25||(!b25)) <|
 chk (b25||(!b25)) <|
 chk (bif b25 then b25 else true) <|
 chk (bif b25 then true else true) <|
 Af (bif b25 then(p0.2.2.2.2.2.2.2.2.2.2.2.2.2.2.1==p1.2.2.2.2.2.2.2.2.2.2.2.2.2.2.1)else false) fun b26 =>
 Af (b26) fun b27 =>
 chk (b27||(!b27)) <|
 chk (b27||(!b27)) <|
 chk (b27||(!b27)) <|
 chk (b27||(!b27)) <|
 let x106:Bool:=(p0.2.2.2.2.2.2.2.2.2.2.2.2.2.2.2.1==p1.2.2.2.2.2.2.2.2.2.2.2.2.2.2.2.1)
 chk (bif b27 then b27 else true) <|
 chk (bif b27 then true else true) <|
 Af (bif b27 then x106 else false) fun b28 =>
 Af (b28) fun b29 =>
 chk (b29||(!b29)) <|
 chk (b29||(!b29)) <|
 chk (b29||(!b29)) <|
 chk (b29||(!b29)) <|
 chk (((Fv N p0.2.2.2.2.2.2.2.2.2.2.2.2.2.2.2.2.1 p1.2.2.2.2.2.2.2.2.2.2.2.2.2.2.2.2.1).isSome)||(!b29)) <|
 let r113:=(Fv N p0.2.2.2.2.2.2.2.2.2.2.2.2.2.2.2.2.1 p1.2.2.2.2.2.2.2.2.2.2.2.2.2.2.2.2.1).getD default
 chk (bif b29 then b29 else true) <|
 chk (bif b29 then true else true) <|
 Af (bif b29 then r113 else false) fun b30 =>
 Af (b30) fun b31 =>
 chk (b31||(!b31)) <|
 chk (b31||(!b31)) <|
 chk (b31||(!b31)) <|
 chk (b31||(!b31)) <|
 chk (((Fv N p0.2.2.2.2.2.2.2.2.2.2.2.2.2.2.2.2.2.1 p1.2.2.2.2.2.2.2.2.2.2.2.2.2.2.2.2.2.1).isSome)||(!b31)) <|
 let r120:=(Fv N p0.2.2.2.2.2.2.2.2.2.2.2.2.2.2.2.2.2.1 p1.2.2.2.2.2.2.2.2.2.2.2.2.2.2.2.2.2.1).getD default
 chk (bif b31 then b31 else true) <|
 chk (bif b31 then true else true) <|
 Af (bif b31 then r120 else false) fun b32 =>
 Af (b32) fun b33 =>
 chk (b33||(!b33)) <|
 chk (b33||(!b33)) <|
 chk (b33||(!b33)) <|
 chk (b33||(!b33)) <|
 chk (((Cc N p0.2.2.2.2.2.2.2.2.2.2.2.2.2.2.2.2.2.2 p1.2.2.2.2.2.2.2.2.2.2.2.2.2.2.2.2.2.2).isSome)||(!b33)) <|
 let r127:=(Cc N p0.2.2.2.2.2.2.2.2.2.2.2.2.2.2.2.2.2.2 p1.2.2.2.2.2.2.2.2.2.2.2.2.2.2.2.2.2.2).getD default
 chk (bif b33 then b33 else true) <|
 chk (bif b33 then true else true) <|
 Af (bif b33 then r127 else false) fun b34 =>
 some b34
abbrev Ada:Type:=Bool
def Nb (N:Nat) (p0:Yq4) (p1:Yq4):Option Ada :=
 Ad (Yt N p0 p1) fun r7 =>
 Af (!r7) fun b1 =>
 chk (!b1|| !!b1) <|
 chk (!b1|| !!b1) <|
 chk (!b1|| !!b1) <|
 chk (!b1|| !!b1) <|
 chk (((CY N p0.2.2.2.2.2.2.2.2.2.2.1 p1.2.2.2.2.2.2.2.2.2.2.1).isSome)||(!!b1)) <|
 let r14:=(CY N p0.2.2.2.2.2.2.2.2.2.2.1 p1.2.2.2.2.2.2.2.2.2.2.1).getD default
 chk (!b1|| !!b1) <|
 chk (bif b1 then true else !b1) <|
 chk (bif b1 then true else true) <|
 Af (bif b1 then true else !r14) fun b2 =>
 Af (b2) fun b3 =>
 chk (!b3|| !!b3) <|
 chk (!b3|| !!b3) <|
 chk (!b3|| !!b3) <|
 chk (!b3|| !!b3) <|
 chk (!b3|| !!b3) <|
 chk (!b3|| !!b3) <|
 chk (((CY N p0.2.2.2.2.2.2.2.2.2.2.2.2.1 p1.2.2.2.2.2.2.2.2.2.2.2.2.1).isSome)||(!!b3)) <|
 let r24:=(CY N p0.2.2.2.2.2.2.2.2.2.2.2.2.1 p1.2.2.2.2.2.2.2.2.2.2.2.2.1).getD default
 chk (!b3|| !!b3) <|
 chk (bif b3 then true else !b3) <|
 chk (bif b3 then true else true) <|
 Af (bif b3 then true else !r24) fun b4 =>
 Af (b4) fun b5 =>
 chk (!b5|| !!b5) <|
 chk (!b5|| !!b5) <|
 chk (!b5|| !!b5) <|
 chk (!b5|| !!b5) <|
 chk (!b5|| !!b5) <|
 chk (!b5|| !!b5) <|
 chk (((CY N p0.2.2.2.2.2.2.2.2.2.2.2.2.2.1 p1.2.2.2.2.2.2.2.2.2.2.2.2.2.1).isSome)||(!!b5)) <|
 let r34:=(CY N p0.2.2.2.2.2.2.2.2.2.2.2.2.2.1 p1.2.2.2.2.2.2.2.2.2.2.2.2.2.1).getD default
 chk (!b5|| !!b5) <|
 chk (bif b5 then true else !b5) <|
 chk (bif b5 then true else true) <|
 Af (bif b5 then true else !r34) fun b6 =>
 bif b6 then(some false)
 else(Ad (IJ N p0.2.2.2.2.2.2.2.2.2.2.2.2.2.2.2.2.1 p1.2.2.2.2.2.2.2.2.2.2.2.2.2.2.2.2.1) fun r41 =>
 chk (r41||(!r41)) <|
 chk (r41||(!r41)) <|
 chk (r41||(!r41)) <|
 chk (r41||(!r41)) <|
 chk (((IJ N p0.2.2.2.2.2.2.2.2.2.2.2.2.2.2.2.2.2.1 p1.2.2.2.2.2.2.2.2.2.2.2.2.2.2.2.2.2.1).isSome)||(!r41)) <|
 let r47:=(IJ N p0.2.2.2.2.2.2.2.2.2.2.2.2.2.2.2.2.2.1 p1.2.2.2.2.2.2.2.2.2.2.2.2.2.2.2.2.2.1).getD default
 chk (bif r41 then r41 else true) <|
 chk (bif r41 then true else true) <|
 some (bif r41 then r47 else false))
abbrev Aak:Type:=Yq4
def JQ (N:Nat):Option Aak :=
 some (false,false,(-1),0,([]:List Bs),([]:List Bs),([]:List (Bs×Bs)),(-1),(-1),(-1),([]:List Yq1),false,([]:List Yq1),([]:List Yq1),([]:Bs),([]:Bs),([]:List Yq2),([]:List Yq2),([]:List (Bs×Bool×Bs)))
abbrev Zh:Type:=Bool
def FM (N:Nat) (p0:Yq4) (p1:List Int):Option Zh :=
 Ad (LQ N p0) fun r12 =>
 bif !r12 then(Ad (Na N) fun r14 =>
 some r14)
 else(Ad (uS N p1) fun r17 =>
 Ad (N8 N r17 p0) fun r19 =>
 Ak (X:=Int×List Yq4) (Y:=Unit) (U2 fun t22a l37888a k1 x2 =>
 bif decide (t22a<2)then(chk (decide (0≤t22a)) <|
 chk (decide (t22a<(l37888a.length:Int))) <|
 chk (decide (t22a.toNat<l37888a.length)) <|
 Ad (EU N (l37888a.getD t22a.toNat (false,false,0,0,([]:List Bs),([]:List Bs),([]:List (Bs×Bs)),0,0,0,([]:List Yq1),false,([]:List Yq1),([]:List Yq1),([]:Bs),([]:Bs),([]:List Yq2),([]:List Yq2),([]:List (Bs×Bool×Bs))))) fun r28 =>
 Ad (GZ N (l37888a.getD t22a.toNat (false,false,0,0,([]:List Bs),([]:List Bs),([]:List (Bs×Bs)),0,0,0,([]:List Yq1),false,([]:List Yq1),([]:List Yq1),([]:Bs),([]:Bs),([]:List Yq2),([]:List Yq2),([]:List (Bs×Bool×Bs))))) fun r33 =>
 Ad (H6 N (l37888a.getD t22a.toNat (false,false,0,0,([]:List Bs),([]:List Bs),([]:List (Bs×Bs)),0,0,0,([]:List Yq1),false,([]:List Yq1),([]:List Yq1),([]:Bs),([]:Bs),([]:List Yq2),([]:List Yq2),([]:List (Bs×Bool×Bs))))) fun r37 =>
 Ad (FY N (l37888a.getD t22a.toNat (false,false,0,0,([]:List Bs),([]:List Bs),([]:List (Bs×Bs)),0,0,0,([]:List Yq1),false,([]:List Yq1),([]:List Yq1),([]:Bs),([]:Bs),([]:List Yq2),([]:List Yq2),([]:List (Bs×Bool×Bs))))) fun r39 =>
 chk ((!(r37 != r39))||(!(!(r37 != r39)))) <|
 chk ((!(r37 != r39))||(!(!(r37 != r39)))) <|
 chk (((Cc N r28.1 r33.1).isSome)||(!(!(r37 != r39)))) <|
 let r44:=(Cc N r28.1 r33.1).getD default
 chk ((!(r37 != r39))||(!(!(r37 != r39)))) <|
 chk (bif (r37 != r39)then true else !(r37 != r39)) <|
 chk (bif (r37 != r39)then true else true) <|
 chk ((!(bif (r37 != r39)then true else !r44))||(!(!(bif (r37 != r39)then true else !r44)))) <|
 chk ((!(bif (r37 != r39)then true else !r44))||(!(!(bif (r37 != r39)then true else !r44)))) <|
 chk (bif bif (r37 != r39)then true else !r44 then true else !(bif (r37 != r39)then true else !r44)) <|
 chk (bif bif (r37 != r39)then true else !r44 then true else true) <|
 let x51:Bool:=bif bif (r37 != r39)then true else !r44 then true else(r28.2 != r33.2)
 bif x51 then(some false)
 else(k1 (i64.wrap (t22a+1),l37888a)))
 else(x2 ()))
 N (0,([p0,r19.1]:List Yq4)) (fun _ =>
 Ad (Na N) fun r53 =>
 chk (((GG N).isSome)||(!r53)) <|
 let r55:=(GG N).getD default
 chk (((JQ N).isSome)||(!r53)) <|
 let r56:=(JQ N).getD default
 chk (r53||(!r53)) <|
 chk (r53||(!r53)) <|
 chk (((Nb N r55 r56).isSome)||(!r53)) <|
 let r57:=(Nb N r55 r56).getD default
 chk (bif r53 then r53 else true) <|
 chk (bif r53 then true else true) <|
 some (bif r53 then r57 else false)))
