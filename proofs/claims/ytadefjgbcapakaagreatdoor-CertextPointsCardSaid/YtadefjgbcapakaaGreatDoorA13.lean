import Derived.Test.YtadefjgbcapakaaGreatDoorA11
set_option linter.all false
namespace Go.Proofs.YtadefjgbcapakaaGreatDoor.Vm
open IntKind (i64)
open Go.Proofs
abbrev Yq0:Type:=List (Bs×Int×Bs)
abbrev Yq1:Type:=Int×Bs×List Yq0
abbrev Yq2:Type:=List Yq1×Int×Bool×List Yq0
abbrev Yq3:Type:=List (Bs×Bool×Bs)
abbrev Yq4:Type:=Bool×Bool×Int×Int×List Bs×List Bs×(List (Bs×Bs))×Int×Int×Int×List Yq1×Bool×List Yq1×List Yq1×Bs×Bs×List Yq2×List Yq2×List (Bs×Bool×Bs)
abbrev Yq5:Type:=Bs×Int×Nat×Nat×Nat
abbrev Yq6:Type:=List Yq1×List Yq1
abbrev Yq7:Type:=List (Int×Bs×Bs)
abbrev Yq8:Type:=(List (Int×Bs×Bs))×Int
def EI (N:Nat) (p0:List Yq0):Option Bool :=
 bif decide ((p0.length:Int)>12)then(some false)
 else(Ap (X:=Int) (Y:=Unit) (fun t14a k1 x2 =>
 bif decide (t14a<(p0.length:Int))then(chk (decide (0<=t14a)) <|
 chk (decide (t14a<(p0.length:Int))) <|
 let x20:Bool:=decide (((p0.getD t14a.toNat ([]:List (Bs×Int×Bs))).length:Int)>8)
 bif x20 then(some false)
 else(Ap (X:=Int) (Y:=Unit) (fun t23b k3 x4 =>
 let x24:Bool:=decide (t23b<((p0.getD t14a.toNat ([]:List (Bs×Int×Bs))).length:Int))
 bif x24 then(chk (decide (0<=t23b)) <|
 chk (decide (t23b<((p0.getD t14a.toNat ([]:List (Bs×Int×Bs))).length:Int))) <|
 let x28:Bs:=((p0.getD t14a.toNat ([]:List (Bs×Int×Bs))).getD t23b.toNat (([]:Bs),0,([]:Bs))).1
 chk ((!(decide ((x28.length:Int)>200)))||(!(!(decide ((x28.length:Int)>200))))) <|
 let x33:Bs:=((p0.getD t14a.toNat ([]:List (Bs×Int×Bs))).getD t23b.toNat (([]:Bs),0,([]:Bs))).2.2
 chk ((!(decide ((x28.length:Int)>200)))||(!(!(decide ((x28.length:Int)>200))))) <|
 chk ((!(decide ((x28.length:Int)>200)))||(!(!(decide ((x28.length:Int)>200))))) <|
 chk (bif decide ((x28.length:Int)>200)then true else !(decide ((x28.length:Int)>200))) <|
 chk (bif decide ((x28.length:Int)>200)then true else true) <|
 let x36:Bool:=bif decide ((x28.length:Int)>200)then true else decide ((x33.length:Int)>200)
 bif x36 then(some false)
 else(k3 (i64.wrap (t23b+1))))
 else(x4 ()))
 N 0 (fun _ =>
 k1 (i64.wrap (t14a+1)))))
 else(x2 ()))
 N 0 (fun _ =>
 some true))
def JI (N:Nat) (p0:List Yq1):Option Bool :=
 bif decide ((p0.length:Int)>20)then(some false)
 else(Ap (X:=Int) (Y:=Unit) (fun t10a k1 x2 =>
 bif decide (t10a<(p0.length:Int))then(chk (decide (0<=t10a)) <|
 chk (decide (t10a<(p0.length:Int))) <|
 let x16:Int:=(((p0.getD t10a.toNat (0,([]:Bs),([]:List Yq0))).2.1).length:Int)
 chk ((!(decide (x16>300)))||(!(!(decide (x16>300))))) <|
 chk ((!(decide (x16>300)))||(!(!(decide (x16>300))))) <|
 chk (((EI N ((p0.getD t10a.toNat (0,([]:Bs),([]:List Yq0))).2.2)).isSome)||(!(!(decide (x16>300))))) <|
 let r21:=(EI N ((p0.getD t10a.toNat (0,([]:Bs),([]:List Yq0))).2.2)).getD default
 chk ((!(decide (x16>300)))||(!(!(decide (x16>300))))) <|
 chk (bif decide (x16>300)then true else !(decide (x16>300))) <|
 chk (bif decide (x16>300)then true else true) <|
 bif bif decide (x16>300)then true else !r21 then(some false)
 else(k1 (i64.wrap (t10a+1))))
 else(x2 ()))
 N 0 (fun _ =>
 some true))
def II (N:Nat) (p0:List Yq2):Option Bool :=
 bif decide ((p0.length:Int)>6)then(some false)
 else(Ap (X:=Int) (Y:=Unit) (fun t10a k1 x2 =>
 bif decide (t10a<(p0.length:Int))then(chk (decide (0<=t10a)) <|
 chk (decide (t10a<(p0.length:Int))) <|
 Ac (JI N ((p0.getD t10a.toNat (([]:List Yq1),0,false,([]:List Yq0))).1)) fun r16 =>
 chk ((!!r16)||(!(!!r16))) <|
 chk ((!!r16)||(!(!!r16))) <|
 chk (((EI N ((p0.getD t10a.toNat (([]:List Yq1),0,false,([]:List Yq0))).2.2.2)).isSome)||(!(!!r16))) <|
 let r21:=(EI N ((p0.getD t10a.toNat (([]:List Yq1),0,false,([]:List Yq0))).2.2.2)).getD default
 chk ((!!r16)||(!(!!r16))) <|
 chk (bif !r16 then true else !(!r16)) <|
 chk (bif !r16 then true else true) <|
 bif bif !r16 then true else !r21 then(some false)
 else(k1 (i64.wrap (t10a+1))))
 else(x2 ()))
 N 0 (fun _ =>
 some true))
def Yv (N:Nat) (p0:Bs):Option Int :=
 Ah (p0==([]:Bs)) fun b1 =>
 chk (!b1|| !!b1) <|
 chk (!b1|| !!b1) <|
 chk (bif b1 then true else !b1) <|
 chk (bif b1 then true else true) <|
 Ah (bif b1 then true else decide ((p0.length:Int)>10)) fun b2 =>
 Ah (b2) fun b3 =>
 chk (!b3|| !!b3) <|
 chk ((decide (0<(p0.length:Int)))||(!!b3)) <|
 chk (!b3|| !!b3) <|
 chk (!b3|| !!b3) <|
 Ah (((p0.getD 0 0).toNat:Int)==48) fun b4 =>
 chk (((!b3)&&b4)||(!((!b3)&&b4))) <|
 chk (((!b3)&&b4)||(!((!b3)&&b4))) <|
 chk (!b3|| !!b3) <|
 chk ((bif b4 then((!b3)&&b4)else true)||(!!b3)) <|
 chk ((bif b4 then true else true)||(!!b3)) <|
 Ah (bif b4 then decide ((p0.length:Int)>1)else false) fun b5 =>
 chk (bif b3 then true else !b3) <|
 chk (bif b3 then true else true) <|
 Ah (bif b3 then true else b5) fun b6 =>
 bif b6 then(some (-1))
 else(Ap (X:=Int×Int) (Y:=Int) (U2 fun t3a t4a k7 x8 =>
 bif decide (t4a<(p0.length:Int))then(chk (decide (0<=t4a)) <|
 chk (decide (t4a<(p0.length:Int))) <|
 chk ((!(decide (((p0.getD t4a.toNat 0).toNat:Int)<48)))||(!(!(decide (((p0.getD t4a.toNat 0).toNat:Int)<48))))) <|
 chk ((!(decide (((p0.getD t4a.toNat 0).toNat:Int)<48)))||(!(!(decide (((p0.getD t4a.toNat 0).toNat:Int)<48))))) <|
 chk ((decide (0<=t4a))||(!(!(decide (((p0.getD t4a.toNat 0).toNat:Int)<48))))) <|
 chk ((decide (t4a<(p0.length:Int)))||(!(!(decide (((p0.getD t4a.toNat 0).toNat:Int)<48))))) <|
 chk ((!(decide (((p0.getD t4a.toNat 0).toNat:Int)<48)))||(!(!(decide (((p0.getD t4a.toNat 0).toNat:Int)<48))))) <|
 chk (bif decide (((p0.getD t4a.toNat 0).toNat:Int)<48)then true else !(decide (((p0.getD t4a.toNat 0).toNat:Int)<48))) <|
 chk (bif decide (((p0.getD t4a.toNat 0).toNat:Int)<48)then true else true) <|
 let x37:Bool:=bif decide (((p0.getD t4a.toNat 0).toNat:Int)<48)then true else decide (((p0.getD t4a.toNat 0).toNat:Int)>57)
 bif x37 then(some (-1))
 else(chk (decide (0<=t4a)) <|
 chk (decide (t4a<(p0.length:Int))) <|
 let x44:Int:=i64.wrap (IntKind.u8.wrap (((p0.getD t4a.toNat 0).toNat:Int) - 48))
 k7 (i64.wrap ((i64.wrap ((10:Int)*t3a))+x44),i64.wrap (t4a+1))))
 else(x8 t3a))
 N (0,0) (fun t3b =>
 bif decide (t3b>2147483647)then(some (-1))
 else(some t3b)))
def ZI (N:Nat) (p0:Int) (p1:Int):Option Bool :=
 chk ((decide (p0<=1))||(!(decide (p0<=1)))) <|
 chk (bif decide (p0<=1)then decide (p0<=1)else true) <|
 chk (bif decide (p0<=1)then true else true) <|
 chk ((!(bif decide (p0<=1)then decide (p1<=39)else false))||(!(!(bif decide (p0<=1)then decide (p1<=39)else false)))) <|
 chk (bif bif decide (p0<=1)then decide (p1<=39)else false then true else !(bif decide (p0<=1)then decide (p1<=39)else false)) <|
 chk (bif bif decide (p0<=1)then decide (p1<=39)else false then true else true) <|
 let x14:Bool:=bif bif decide (p0<=1)then decide (p1<=39)else false then true else(p0==2)
 some x14
def Vg (N:Nat) (p0:Bs):Option (List Int) :=
 Ac (strings_Split N p0 ([46]:Bs)) fun r9 =>
 chk ((!(decide ((r9.length:Int)<2)))||(!(!(decide ((r9.length:Int)<2))))) <|
 chk ((!(decide ((r9.length:Int)<2)))||(!(!(decide ((r9.length:Int)<2))))) <|
 chk (bif decide ((r9.length:Int)<2)then true else !(decide ((r9.length:Int)<2))) <|
 chk (bif decide ((r9.length:Int)<2)then true else true) <|
 let x17:Bool:=bif decide ((r9.length:Int)<2)then true else decide ((r9.length:Int)>12)
 bif x17 then(some ([]:List Int))
 else(Ap (X:=Int×List Int) (Y:=(List Int)) (U2 fun t20a l1000000a k1 x2 =>
 bif decide (t20a<(r9.length:Int))then(chk (decide (0<=t20a)) <|
 chk (decide (t20a<(r9.length:Int))) <|
 Ac (Yv N (r9.getD t20a.toNat ([]:Bs))) fun r25 =>
 bif decide (r25<0)then(some ([]:List Int))
 else(chk (decide ((l1000000a.length+1)*9<=140737488355328)) <|
 k1 (i64.wrap (t20a+1),l1000000a++([r25]:List Int))))
 else(x2 l1000000a))
 N (0,([]:List Int)) (fun l1004096b =>
 chk (decide (0<(l1004096b.length:Int))) <|
 chk (decide (0<l1004096b.length)) <|
 chk (decide (1<(l1004096b.length:Int))) <|
 chk (decide (1<l1004096b.length)) <|
 Ac (ZI N (l1004096b.getD 0 0) (l1004096b.getD 1 0)) fun r39 =>
 bif !r39 then(some ([]:List Int))
 else(chk (decide (0<l1004096b.length)) <|
 some l1004096b)))
def GR (N:Nat) (p0:Bs):Option Bool :=
 Ac (Vg N p0) fun r4 =>
 some (!r4.isEmpty)
def qQ (N:Nat) (p0:Int):Option Bool :=
 Ah (decide (p0>=97)) fun b1 =>
 chk (b1||(!b1)) <|
 chk (bif b1 then b1 else true) <|
 chk (bif b1 then true else true) <|
 Ah (bif b1 then decide (p0<=122)else false) fun b2 =>
 Ah (b2) fun b3 =>
 chk (!b3|| !!b3) <|
 chk (!b3|| !!b3) <|
 Ah (decide (p0>=65)) fun b4 =>
 chk (((!b3)&&b4)||(!((!b3)&&b4))) <|
 chk (!b3|| !!b3) <|
 chk ((bif b4 then((!b3)&&b4)else true)||(!!b3)) <|
 chk ((bif b4 then true else true)||(!!b3)) <|
 Ah (bif b4 then decide (p0<=90)else false) fun b5 =>
 chk (bif b3 then true else !b3) <|
 chk (bif b3 then true else true) <|
 Ah (bif b3 then true else b5) fun b6 =>
 Ah (b6) fun b7 =>
 chk (!b7|| !!b7) <|
 chk (!b7|| !!b7) <|
 Ah (decide (p0>=48)) fun b8 =>
 chk (((!b7)&&b8)||(!((!b7)&&b8))) <|
 chk (!b7|| !!b7) <|
 chk ((bif b8 then((!b7)&&b8)else true)||(!!b7)) <|
 chk ((bif b8 then true else true)||(!!b7)) <|
 Ah (bif b8 then decide (p0<=57)else false) fun b9 =>
 chk (bif b7 then true else !b7) <|
 chk (bif b7 then true else true) <|
 Ah (bif b7 then true else b9) fun b10 =>
 some b10
def Iw (N:Nat) (p0:Int):Option Bool :=
 Ac (qQ N p0) fun r4 =>
 chk (!r4|| !!r4) <|
 chk (((strings_IndexByte N ([32,39,40,41,43,44,45,46,47,58,61,63]:Bs) p0).isSome)||(!!r4)) <|
 let r7:=(strings_IndexByte N ([32,39,40,41,43,44,45,46,47,58,61,63]:Bs) p0).getD default
 chk (!r4|| !!r4) <|
 chk (bif r4 then true else !r4) <|
 chk (bif r4 then true else true) <|
 some (bif r4 then true else decide (r7>=0))
def Iy (N:Nat) (p0:Int):Option Bool :=
 chk ((decide (p0>=32))||(!(decide (p0>=32)))) <|
 chk (bif decide (p0>=32)then decide (p0>=32)else true) <|
 chk (bif decide (p0>=32)then true else true) <|
 some (bif decide (p0>=32)then decide (p0<=126)else false)
def mX (N n:Nat) (a:Int):Option (Bool) :=
  bif Nat.beq n 286 then Iw N a else
  bif Nat.beq n 289 then Iy N a else
  none
def NZ (N:Nat) (p0:Bs) (p1:Nat):Option Bool :=
 Ap (X:=Int) (Y:=Unit) (fun t5a k1 x2 =>
 bif decide (t5a<(p0.length:Int))then(chk (decide (0<=t5a)) <|
 chk (decide (t5a<(p0.length:Int))) <|
 Ac (mX N p1 ((p0.getD t5a.toNat 0).toNat:Int)) fun r16 =>
 bif !r16 then(some false)
 else(k1 (i64.wrap (t5a+1))))
 else(x2 ()))
 N 0 (fun _ =>
 some true)
def IW (N:Nat) (p0:Int) (p1:Bs):Option Bool :=
 bif (p0==12)then(Ac (aT N p1) fun r9 =>
 some r9)
 else(bif (p0==19)then(Ac (NZ N p1 286) fun r13 =>
 some r13)
 else(bif (p0==22)then(Ac (NZ N p1 289) fun r17 =>
 some r17)
 else(some false)))
def EC (N:Nat) (p0:Yq0):Option Int :=
 bif ((p0.length:Int)==0)then(some 14)
 else(bif decide ((p0.length:Int)>4)then(some 2)
 else(Ap (X:=Int) (Y:=Unit) (fun t15a k1 x2 =>
 bif decide (t15a<(p0.length:Int))then(chk (decide (0<=t15a)) <|
 chk (decide (t15a<(p0.length:Int))) <|
 Ac (GR N ((p0.getD t15a.toNat (([]:Bs),0,([]:Bs))).1)) fun r22 =>
 bif !r22 then(some 11)
 else(chk ((!(((p0.getD t15a.toNat (([]:Bs),0,([]:Bs))).2.2)==([]:Bs)))||(!(!(((p0.getD t15a.toNat (([]:Bs),0,([]:Bs))).2.2)==([]:Bs))))) <|
 chk ((!(((p0.getD t15a.toNat (([]:Bs),0,([]:Bs))).2.2)==([]:Bs)))||(!(!(((p0.getD t15a.toNat (([]:Bs),0,([]:Bs))).2.2)==([]:Bs))))) <|
 chk ((!(((p0.getD t15a.toNat (([]:Bs),0,([]:Bs))).2.2)==([]:Bs)))||(!(!(((p0.getD t15a.toNat (([]:Bs),0,([]:Bs))).2.2)==([]:Bs))))) <|
 chk ((!(((p0.getD t15a.toNat (([]:Bs),0,([]:Bs))).2.2)==([]:Bs)))||(!(!(((p0.getD t15a.toNat (([]:Bs),0,([]:Bs))).2.2)==([]:Bs))))) <|
 chk (((IW N ((p0.getD t15a.toNat (([]:Bs),0,([]:Bs))).2.1) ((p0.getD t15a.toNat (([]:Bs),0,([]:Bs))).2.2)).isSome)||(!(!(((p0.getD t15a.toNat (([]:Bs),0,([]:Bs))).2.2)==([]:Bs))))) <|
 let r32:=(IW N ((p0.getD t15a.toNat (([]:Bs),0,([]:Bs))).2.1) ((p0.getD t15a.toNat (([]:Bs),0,([]:Bs))).2.2)).getD default
 chk ((!(((p0.getD t15a.toNat (([]:Bs),0,([]:Bs))).2.2)==([]:Bs)))||(!(!(((p0.getD t15a.toNat (([]:Bs),0,([]:Bs))).2.2)==([]:Bs))))) <|
 chk (bif (((p0.getD t15a.toNat (([]:Bs),0,([]:Bs))).2.2)==([]:Bs))then true else !(((p0.getD t15a.toNat (([]:Bs),0,([]:Bs))).2.2)==([]:Bs))) <|
 chk (bif (((p0.getD t15a.toNat (([]:Bs),0,([]:Bs))).2.2)==([]:Bs))then true else true) <|
 let x34:Bool:=bif (((p0.getD t15a.toNat (([]:Bs),0,([]:Bs))).2.2)==([]:Bs))then true else !r32
 bif x34 then(some 13)
 else(let x38:Bool:=decide ((((p0.getD t15a.toNat (([]:Bs),0,([]:Bs))).2.2).length:Int)>64)
 bif x38 then(some 2)
 else(chk (decide (0<=t15a)) <|
 chk (decide (t15a<=(p0.length:Int))) <|
 Ap (X:=Int×Bs×Int×Bs) (Y:=Unit) (U4 fun t43b b33792_0b b33792_1b b33792_2b k3 x4 =>
 bif decide (t43b<((Ar p0 0 t15a.toNat).length:Int))then(chk (decide (0<=t43b)) <|
 chk (decide (t43b<((Ar p0 0 t15a.toNat).length:Int))) <|
 let x51:Bool:=((((Ar p0 0 t15a.toNat).getD t43b.toNat (([]:Bs),0,([]:Bs))).1)==b33792_0b)
 bif x51 then(some 10)
 else(k3 (i64.wrap (t43b+1),b33792_0b,b33792_1b,b33792_2b)))
 else(x4 ()))
 N (0,(p0.getD t15a.toNat (([]:Bs),0,([]:Bs))).1,(p0.getD t15a.toNat (([]:Bs),0,([]:Bs))).2.1,(p0.getD t15a.toNat (([]:Bs),0,([]:Bs))).2.2) (fun _ =>
 k1 (i64.wrap (t15a+1)))))))
 else(x2 ()))
 N 0 (fun _ =>
 some 0)))
def EN (N:Nat) (p0:List Yq0):Option Int :=
 bif decide ((p0.length:Int)>8)then(some 2)
 else(Ap (X:=Int) (Y:=Unit) (fun t13a k1 x2 =>
 bif decide (t13a<(p0.length:Int))then(chk (decide (0<=t13a)) <|
 chk (decide (t13a<(p0.length:Int))) <|
 Ac (EC N (p0.getD t13a.toNat ([]:List (Bs×Int×Bs)))) fun r18 =>
 bif (r18 != 0)then(some r18)
 else(k1 (i64.wrap (t13a+1))))
 else(x2 ()))
 N 0 (fun _ =>
 some 0))
def sK (N:Nat) (p0:Int):Option Int :=
 bif (p0==1)then(some 0)
 else(bif (p0==2)then(some 1)
 else(bif (p0==4)then(some 2)
 else(bif (p0==7)then(some 3)
 else(some 4))))
def Ht (N:Nat) (p0:Int):Option Bool :=
 Ah (decide (p0>=97)) fun b1 =>
 chk (b1||(!b1)) <|
 chk (bif b1 then b1 else true) <|
 chk (bif b1 then true else true) <|
 Ah (bif b1 then decide (p0<=122)else false) fun b2 =>
 Ah (b2) fun b3 =>
 chk (!b3|| !!b3) <|
 chk (!b3|| !!b3) <|
 Ah (decide (p0>=65)) fun b4 =>
 chk (((!b3)&&b4)||(!((!b3)&&b4))) <|
 chk (!b3|| !!b3) <|
 chk ((bif b4 then((!b3)&&b4)else true)||(!!b3)) <|
 chk ((bif b4 then true else true)||(!!b3)) <|
 Ah (bif b4 then decide (p0<=90)else false) fun b5 =>
 chk (bif b3 then true else !b3) <|
 chk (bif b3 then true else true) <|
 Ah (bif b3 then true else b5) fun b6 =>
 some b6
def GN (N:Nat) (p0:Int):Option Bool :=
 chk ((decide (p0>=48))||(!(decide (p0>=48)))) <|
 chk (bif decide (p0>=48)then decide (p0>=48)else true) <|
 chk (bif decide (p0>=48)then true else true) <|
 some (bif decide (p0>=48)then decide (p0<=57)else false)
def TW (N:Nat) (p0:Bs):Option Bool :=
 Ah (decide ((p0.length:Int)<1)) fun b1 =>
 chk (!b1|| !!b1) <|
 chk (!b1|| !!b1) <|
 chk (bif b1 then true else !b1) <|
 chk (bif b1 then true else true) <|
 Ah (bif b1 then true else decide ((p0.length:Int)>63)) fun b2 =>
 Ah (b2) fun b3 =>
 chk (!b3|| !!b3) <|
 chk ((decide (0<(p0.length:Int)))||(!!b3)) <|
 chk (!b3|| !!b3) <|
 chk (bif b3 then true else !b3) <|
 chk (bif b3 then true else true) <|
 Ah (bif b3 then true else(((p0.getD 0 0).toNat:Int)==45)) fun b4 =>
 Ah (b4) fun b5 =>
 chk (!b5|| !!b5) <|
 chk (!b5|| !!b5) <|
 chk (!b5|| !!b5) <|
 chk (!b5|| !!b5) <|
 chk ((decide (0<=i64.wrap ((p0.length:Int) - 1)))||(!!b5)) <|
 chk ((decide (i64.wrap ((p0.length:Int) - 1)<(p0.length:Int)))||(!!b5)) <|
 let x23:Int:=((p0.getD ((i64.wrap ((p0.length:Int) - 1)).toNat) 0).toNat:Int)
 chk (!b5|| !!b5) <|
 chk (bif b5 then true else !b5) <|
 chk (bif b5 then true else true) <|
 Ah (bif b5 then true else(x23==45)) fun b6 =>
 bif b6 then(some false)
 else(chk (decide (p0.length<=140737488355328)) <|
 Ap (X:=Int×List Int) (Y:=Unit) (U2 fun t29a l39680a k7 x8 =>
 let x30:Bool:=decide (t29a<((List.map (fun(b:UInt8)=>(b.toNat:Int)) p0).length:Int))
 bif x30 then(chk (decide (0<=t29a)) <|
 chk (decide (t29a<(l39680a.length:Int))) <|
 chk (decide (t29a.toNat<l39680a.length)) <|
 Ac (Ht N (l39680a.getD t29a.toNat 0)) fun r34 =>
 chk (!r34|| !!r34) <|
 chk (((GN N (l39680a.getD t29a.toNat 0)).isSome)||(!!r34)) <|
 let r38:=(GN N (l39680a.getD t29a.toNat 0)).getD default
 chk (!r34|| !!r34) <|
 chk (bif !r34 then !r34 else true) <|
 chk (bif !r34 then true else true) <|
 chk ((bif !r34 then !r38 else false)||(!(bif !r34 then !r38 else false))) <|
 chk (bif bif !r34 then !r38 else false then bif !r34 then !r38 else false else true) <|
 chk (bif bif !r34 then !r38 else false then true else true) <|
 let x44:Bool:=bif bif !r34 then !r38 else false then((l39680a.getD t29a.toNat 0) != 45)else false
 bif x44 then(some false)
 else(k7 (i64.wrap (t29a+1),l39680a)))
 else(x8 ()))
 N (0,List.map (fun(b:UInt8)=>(b.toNat:Int)) p0) (fun _ =>
 some true))
def Fj (N:Nat) (p0:Bs):Option Bool :=
 bif decide ((p0.length:Int)>128)then(some false)
 else(Ac (strings_Split N p0 ([46]:Bs)) fun r9 =>
 Ap (X:=Int) (Y:=Unit) (fun t11a k1 x2 =>
 bif decide (t11a<(r9.length:Int))then(chk (decide (0<=t11a)) <|
 chk (decide (t11a<(r9.length:Int))) <|
 Ac (TW N (r9.getD t11a.toNat ([]:Bs))) fun r16 =>
 bif !r16 then(some false)
 else(k1 (i64.wrap (t11a+1))))
 else(x2 ()))
 N 0 (fun _ =>
 some true))
def Ph (N:Nat) (p0:Bs):Option Bool :=
 Ah (decide ((p0.length:Int)<1)) fun b1 =>
 chk (!b1|| !!b1) <|
 chk (!b1|| !!b1) <|
 chk (bif b1 then true else !b1) <|
 chk (bif b1 then true else true) <|
 Ah (bif b1 then true else decide ((p0.length:Int)>64)) fun b2 =>
 Ah (b2) fun b3 =>
 chk (!b3|| !!b3) <|
 chk ((decide (0<(p0.length:Int)))||(!!b3)) <|
 chk (!b3|| !!b3) <|
 chk (bif b3 then true else !b3) <|
 chk (bif b3 then true else true) <|
 Ah (bif b3 then true else(((p0.getD 0 0).toNat:Int)==46)) fun b4 =>
 Ah (b4) fun b5 =>
 chk (!b5|| !!b5) <|
 chk (!b5|| !!b5) <|
 chk (!b5|| !!b5) <|
 chk (!b5|| !!b5) <|
 chk ((decide (0<=i64.wrap ((p0.length:Int) - 1)))||(!!b5)) <|
 chk ((decide (i64.wrap ((p0.length:Int) - 1)<(p0.length:Int)))||(!!b5)) <|
 let x24:Int:=((p0.getD ((i64.wrap ((p0.length:Int) - 1)).toNat) 0).toNat:Int)
 chk (!b5|| !!b5) <|
 chk (bif b5 then true else !b5) <|
 chk (bif b5 then true else true) <|
 Ah (bif b5 then true else(x24==46)) fun b6 =>
 Ah (b6) fun b7 =>
 chk (!b7|| !!b7) <|
 chk (((strings_Contains N p0 ([46,46]:Bs)).isSome)||(!!b7)) <|
 let r29:=(strings_Contains N p0 ([46,46]:Bs)).getD default
 chk (bif b7 then true else !b7) <|
 chk (bif b7 then true else true) <|
 Ah (bif b7 then true else r29) fun b8 =>
 bif b8 then(some false)
 else(chk (decide (p0.length<=140737488355328)) <|
 Ap (X:=Int×List Int) (Y:=Unit) (U2 fun t34a l40960a k9 x10 =>
 let x35:Bool:=decide (t34a<((List.map (fun(b:UInt8)=>(b.toNat:Int)) p0).length:Int))
 bif x35 then(chk (decide (0<=t34a)) <|
 chk (decide (t34a<(l40960a.length:Int))) <|
 chk (decide (t34a.toNat<l40960a.length)) <|
 Ac (Ht N (l40960a.getD t34a.toNat 0)) fun r40 =>
 bif r40 then(k9 (i64.wrap (t34a+1),l40960a))
 else(Ac (GN N (l40960a.getD t34a.toNat 0)) fun r43 =>
 bif r43 then(k9 (i64.wrap (t34a+1),l40960a))
 else(Ac (strings_IndexByte N ([33,35,36,37,38,39,42,43,45,47,61,63,94,95,96,123,124,125,126,46]:Bs) (l40960a.getD t34a.toNat 0)) fun r45 =>
 bif !(decide (r45>=0))then(some false)
 else(k9 (i64.wrap (t34a+1),l40960a)))))
 else(x10 ()))
 N (0,List.map (fun(b:UInt8)=>(b.toNat:Int)) p0) (fun _ =>
 some true))
def Kw (N:Nat) (p0:Bs):Option Bool :=
 Ac (strings_Cut N p0 ([64]:Bs)) fun r8 =>
 Ah (r8.2.2) fun b1 =>
 chk (b1||(!b1)) <|
 chk (b1||(!b1)) <|
 chk (bif b1 then b1 else true) <|
 chk (bif b1 then true else true) <|
 Ah (bif b1 then decide ((p0.length:Int)<=128)else false) fun b2 =>
 Ah (b2) fun b3 =>
 chk (b3||(!b3)) <|
 chk (((Ph N r8.1).isSome)||(!b3)) <|
 let r20:=(Ph N r8.1).getD default
 chk (bif b3 then b3 else true) <|
 chk (bif b3 then true else true) <|
 Ah (bif b3 then r20 else false) fun b4 =>
 Ah (b4) fun b5 =>
 chk (b5||(!b5)) <|
 chk (((Fj N r8.2.1).isSome)||(!b5)) <|
 let r24:=(Fj N r8.2.1).getD default
 chk (bif b5 then b5 else true) <|
 chk (bif b5 then true else true) <|
 Ah (bif b5 then r24 else false) fun b6 =>
 some b6
def Ji (N:Nat) (p0:Bs):Option Bool :=
 chk ((decide ((p0.length:Int)<=128))||(!(decide ((p0.length:Int)<=128)))) <|
 chk (((Kw N p0).isSome)||(!(decide ((p0.length:Int)<=128)))) <|
 let r8:=(Kw N p0).getD default
 chk ((decide ((p0.length:Int)<=128))||(!(decide ((p0.length:Int)<=128)))) <|
 chk (((decide ((p0.length:Int)<=128))&&(!r8))||(!((decide ((p0.length:Int)<=128))&&(!r8)))) <|
 chk (((strings_TrimPrefix N p0 ([46]:Bs)).isSome)||(!((decide ((p0.length:Int)<=128))&&(!r8)))) <|
 let r11:=(strings_TrimPrefix N p0 ([46]:Bs)).getD default
 chk (((decide ((p0.length:Int)<=128))&&(!r8))||(!((decide ((p0.length:Int)<=128))&&(!r8)))) <|
 chk (((Fj N r11).isSome)||(!((decide ((p0.length:Int)<=128))&&(!r8)))) <|
 let r12:=(Fj N r11).getD default
 chk ((decide ((p0.length:Int)<=128))||(!(decide ((p0.length:Int)<=128)))) <|
 chk ((bif r8 then true else((decide ((p0.length:Int)<=128))&&(!r8)))||(!(decide ((p0.length:Int)<=128)))) <|
 chk ((bif r8 then true else true)||(!(decide ((p0.length:Int)<=128)))) <|
 chk (bif decide ((p0.length:Int)<=128)then decide ((p0.length:Int)<=128)else true) <|
 chk (bif decide ((p0.length:Int)<=128)then true else true) <|
 let x14:Bool:=bif decide ((p0.length:Int)<=128)then bif r8 then true else r12 else false
 some x14
def Ry (N:Nat) (p0:Bs):Option Bool :=
 chk ((!(p0==([]:Bs)))||(!(!(p0==([]:Bs))))) <|
 chk (((Fj N p0).isSome)||(!(!(p0==([]:Bs))))) <|
 let r7:=(Fj N p0).getD default
 chk (bif (p0==([]:Bs))then true else !(p0==([]:Bs))) <|
 chk (bif (p0==([]:Bs))then true else true) <|
 some (bif (p0==([]:Bs))then true else r7)
def Ky (N:Nat) (p0:Bs):Option Bool :=
 Ac (strings_CutPrefix N p0 ([42,46]:Bs)) fun r7 =>
 bif r7.2 then(chk ((decide ((p0.length:Int)<=128))||(!(decide ((p0.length:Int)<=128)))) <|
 chk (((Fj N r7.1).isSome)||(!(decide ((p0.length:Int)<=128)))) <|
 let r16:=(Fj N r7.1).getD default
 chk (bif decide ((p0.length:Int)<=128)then decide ((p0.length:Int)<=128)else true) <|
 chk (bif decide ((p0.length:Int)<=128)then true else true) <|
 chk ((bif decide ((p0.length:Int)<=128)then r16 else false)||(!(bif decide ((p0.length:Int)<=128)then r16 else false))) <|
 chk (((strings_Contains N r7.1 ([46]:Bs)).isSome)||(!(bif decide ((p0.length:Int)<=128)then r16 else false))) <|
 let r20:=(strings_Contains N r7.1 ([46]:Bs)).getD default
 chk (bif bif decide ((p0.length:Int)<=128)then r16 else false then bif decide ((p0.length:Int)<=128)then r16 else false else true) <|
 chk (bif bif decide ((p0.length:Int)<=128)then r16 else false then true else true) <|
 let x21:Bool:=bif bif decide ((p0.length:Int)<=128)then r16 else false then r20 else false
 some x21)
 else(Ac (Fj N p0) fun r23 =>
 some r23)
def QV (N:Nat) (p0:Bs):Option (Bs×Bs) :=
 chk (decide (0<=i64.wrap ((p0.length:Int).tdiv 2))) <|
 chk (decide (i64.wrap ((p0.length:Int).tdiv 2)<=(p0.length:Int))) <|
 chk (decide (0<=i64.wrap ((p0.length:Int).tdiv 2))) <|
 chk (decide (i64.wrap ((p0.length:Int).tdiv 2)<=(p0.length:Int))) <|
 let x13:Bs:=Ar p0 ((i64.wrap ((p0.length:Int).tdiv 2)).toNat) p0.length
 some (Ar p0 0 ((i64.wrap ((p0.length:Int).tdiv 2)).toNat),x13)
def QE (N:Nat) (p0:Bs) (p1:Int):Option Bool :=
 chk (decide (0<=i64.wrap (p1.tdiv 8))) <|
 chk (decide (i64.wrap (p1.tdiv 8)<(p0.length:Int))) <|
 chk (decide (0<=IntKind.u64.wrap ((7:Int) - (IntKind.u64.wrap (p1.tmod 8))))) <|
 let x13:Int:=((p0.getD ((i64.wrap (p1.tdiv 8)).toNat) 0).toNat:Int).fdiv (2 ^ (min (IntKind.u64.wrap ((7:Int) - (IntKind.u64.wrap (p1.tmod 8)))).toNat 8))
 some ((Ba .and .u8 x13 1)==1)
def Pg (N:Nat) (p0:Bs):Option Bool :=
 chk (((p0.length:Int) != 8)||(!((p0.length:Int) != 8))) <|
 chk (((p0.length:Int) != 8)||(!((p0.length:Int) != 8))) <|
 chk (bif ((p0.length:Int) != 8)then((p0.length:Int) != 8)else true) <|
 chk (bif ((p0.length:Int) != 8)then true else true) <|
 let x15:Bool:=bif ((p0.length:Int) != 8)then((p0.length:Int) != 32)else false
 bif x15 then(some false)
 else(Ac (QV N p0) fun r18 =>
 Ap (X:=Bool×Int) (Y:=Unit) (U2 fun t5a t6a k1 x2 =>
 bif decide (t6a<(i64.wrap ((8:Int)*(r18.2.length:Int))))then(Ac (QE N r18.2 t6a) fun r30 =>
 Ah (r30) fun b3 =>
 chk (bif b3 then b3 else true) <|
 chk (bif b3 then true else true) <|
 Ah (bif b3 then t5a else false) fun b4 =>
 Ah (b4) fun b5 =>
 chk (!b5|| !!b5) <|
 chk (!b5|| !!b5) <|
 Ah (!r30) fun b6 =>
 chk (((!b5)&&b6)||(!((!b5)&&b6))) <|
 chk (((!b5)&&b6)||(!((!b5)&&b6))) <|
 chk (((QE N r18.1 t6a).isSome)||(!((!b5)&&b6))) <|
 let r41:=(QE N r18.1 t6a).getD default
 chk (!b5|| !!b5) <|
 chk ((bif b6 then((!b5)&&b6)else true)||(!!b5)) <|
 chk ((bif b6 then true else true)||(!!b5)) <|
 Ah (bif b6 then r41 else false) fun b7 =>
 chk (bif b5 then true else !b5) <|
 chk (bif b5 then true else true) <|
 Ah (bif b5 then true else b7) fun b8 =>
 bif b8 then(some false)
 else(chk (!t5a|| !!t5a) <|
 chk (bif t5a then true else !t5a) <|
 chk (bif t5a then true else true) <|
 k1 (bif t5a then true else !r30,i64.wrap (t6a+1))))
 else(x2 ()))
 N (false,0) (fun _ =>
 some true))
def Kv (N:Nat) (p0:Bs):Option Bool :=
 chk ((!((p0.length:Int)==4))||(!(!((p0.length:Int)==4)))) <|
 chk ((!((p0.length:Int)==4))||(!(!((p0.length:Int)==4)))) <|
 chk (bif ((p0.length:Int)==4)then true else !((p0.length:Int)==4)) <|
 chk (bif ((p0.length:Int)==4)then true else true) <|
 let x10:Bool:=bif ((p0.length:Int)==4)then true else((p0.length:Int)==16)
 some x10
def EH (N:Nat) (p0:Int) (p1:Bs) (p2:Bool):Option Bool :=
 bif (p0==0)then(Ah (p2) fun b1 =>
 chk (b1||(!b1)) <|
 chk (((Ji N p1).isSome)||(!b1)) <|
 let r13:=(Ji N p1).getD default
 chk (bif b1 then b1 else true) <|
 chk (bif b1 then true else true) <|
 Ah (bif b1 then r13 else false) fun b2 =>
 Ah (b2) fun b3 =>
 chk (!b3|| !!b3) <|
 chk (!b3|| !!b3) <|
 Ah (!p2) fun b4 =>
 chk (((!b3)&&b4)||(!((!b3)&&b4))) <|
 chk (((Kw N p1).isSome)||(!((!b3)&&b4))) <|
 let r20:=(Kw N p1).getD default
 chk (!b3|| !!b3) <|
 chk ((bif b4 then((!b3)&&b4)else true)||(!!b3)) <|
 chk ((bif b4 then true else true)||(!!b3)) <|
 Ah (bif b4 then r20 else false) fun b5 =>
 chk (bif b3 then true else !b3) <|
 chk (bif b3 then true else true) <|
 Ah (bif b3 then true else b5) fun b6 =>
 some b6)
 else(bif (p0==1)then(Ah (p2) fun b7 =>
 chk (b7||(!b7)) <|
 chk (((Ry N p1).isSome)||(!b7)) <|
 let r28:=(Ry N p1).getD default
 chk (bif b7 then b7 else true) <|
 chk (bif b7 then true else true) <|
 Ah (bif b7 then r28 else false) fun b8 =>
 Ah (b8) fun b9 =>
 chk (!b9|| !!b9) <|
 chk (!b9|| !!b9) <|
 Ah (!p2) fun b10 =>
 chk (((!b9)&&b10)||(!((!b9)&&b10))) <|
 chk (((Ky N p1).isSome)||(!((!b9)&&b10))) <|
 let r35:=(Ky N p1).getD default
 chk (!b9|| !!b9) <|
 chk ((bif b10 then((!b9)&&b10)else true)||(!!b9)) <|
 chk ((bif b10 then true else true)||(!!b9)) <|
 Ah (bif b10 then r35 else false) fun b11 =>
 chk (bif b9 then true else !b9) <|
 chk (bif b9 then true else true) <|
 Ah (bif b9 then true else b11) fun b12 =>
 some b12)
 else(bif (p0==3)then(Ah (p2) fun b13 =>
 chk (b13||(!b13)) <|
 chk (((Pg N p1).isSome)||(!b13)) <|
 let r43:=(Pg N p1).getD default
 chk (bif b13 then b13 else true) <|
 chk (bif b13 then true else true) <|
 Ah (bif b13 then r43 else false) fun b14 =>
 Ah (b14) fun b15 =>
 chk (!b15|| !!b15) <|
 chk (!b15|| !!b15) <|
 Ah (!p2) fun b16 =>
 chk (((!b15)&&b16)||(!((!b15)&&b16))) <|
 chk (((Kv N p1).isSome)||(!((!b15)&&b16))) <|
 let r50:=(Kv N p1).getD default
 chk (!b15|| !!b15) <|
 chk ((bif b16 then((!b15)&&b16)else true)||(!!b15)) <|
 chk ((bif b16 then true else true)||(!!b15)) <|
 Ah (bif b16 then r50 else false) fun b17 =>
 chk (bif b15 then true else !b15) <|
 chk (bif b15 then true else true) <|
 Ah (bif b15 then true else b17) fun b18 =>
 some b18)
 else(some false)))
def FP (N:Nat) (p0:Yq1) (p1:Bool):Option Int :=
 Ac (sK N p0.1) fun r8 =>
 bif (r8==4)then(some 14)
 else(bif (r8==2)then(bif !(p0.2.1==([]:Bs))then(some 14)
 else(Ac (EN N p0.2.2) fun r32 =>
 some r32))
 else(chk ((!(decide ((p0.2.2.length:Int)>0)))||(!(!(decide ((p0.2.2.length:Int)>0))))) <|
 chk ((!(decide ((p0.2.2.length:Int)>0)))||(!(!(decide ((p0.2.2.length:Int)>0))))) <|
 chk ((!(decide ((p0.2.2.length:Int)>0)))||(!(!(decide ((p0.2.2.length:Int)>0))))) <|
 chk ((!(decide ((p0.2.2.length:Int)>0)))||(!(!(decide ((p0.2.2.length:Int)>0))))) <|
 chk (((EH N r8 p0.2.1 p1).isSome)||(!(!(decide ((p0.2.2.length:Int)>0))))) <|
 let r20:=(EH N r8 p0.2.1 p1).getD default
 chk ((!(decide ((p0.2.2.length:Int)>0)))||(!(!(decide ((p0.2.2.length:Int)>0))))) <|
 chk (bif decide ((p0.2.2.length:Int)>0)then true else !(decide ((p0.2.2.length:Int)>0))) <|
 chk (bif decide ((p0.2.2.length:Int)>0)then true else true) <|
 bif bif decide ((p0.2.2.length:Int)>0)then true else !r20 then(some 14)
 else(some 0)))
def EW (N:Nat) (p0:List Yq1):Option Int :=
 Ap (X:=Int) (Y:=Unit) (fun t8a k1 x2 =>
 bif decide (t8a<(p0.length:Int))then(chk (decide (0<=t8a)) <|
 chk (decide (t8a<(p0.length:Int))) <|
 Ac (FP N (p0.getD t8a.toNat (0,([]:Bs),([]:List Yq0))) false) fun r13 =>
 bif (r13 != 0)then(some r13)
 else(k1 (i64.wrap (t8a+1))))
 else(x2 ()))
 N 0 (fun _ =>
 some 0)
def GM (N:Nat) (p0:Yq2):Option Int :=
 Dz (α :=Bool×List Yq1×Int×Bool×List Yq0) (fun j1 =>
 chk (((p0.1.length:Int)==0)||(!((p0.1.length:Int)==0))) <|
 chk (((p0.1.length:Int)==0)||(!((p0.1.length:Int)==0))) <|
 chk (bif ((p0.1.length:Int)==0)then((p0.1.length:Int)==0)else true) <|
 chk (bif ((p0.1.length:Int)==0)then true else true) <|
 bif bif ((p0.1.length:Int)==0)then !p0.2.2.1 else false then(j1 (bif ((p0.1.length:Int)==0)then !p0.2.2.1 else false,p0.1,p0.2.1,p0.2.2.1,p0.2.2.2))
 else(chk ((decide ((p0.2.2.2.length:Int)>0))||(!(decide ((p0.2.2.2.length:Int)>0)))) <|
 chk ((decide ((p0.2.2.2.length:Int)>0))||(!(decide ((p0.2.2.2.length:Int)>0)))) <|
 chk (bif decide ((p0.2.2.2.length:Int)>0)then decide ((p0.2.2.2.length:Int)>0)else true) <|
 chk (bif decide ((p0.2.2.2.length:Int)>0)then true else true) <|
 let x23:Bool:=bif decide ((p0.2.2.2.length:Int)>0)then !p0.2.2.1 else false
 j1 (x23,p0.1,p0.2.1,p0.2.2.1,p0.2.2.2)))
 (U5 fun t4a b33024_0a b33024_1a b33024_2a b33024_3a =>
 bif t4a then(some 7)
 else(bif ((Ba .andNot .i64 b33024_1a 510) != 0)then(some 1)
 else(bif decide ((b33024_0a.length:Int)>16)then(some 2)
 else(Ac (EW N b33024_0a) fun r36 =>
 bif (r36 != 0)then(some r36)
 else(bif !b33024_2a then(some 0)
 else(bif ((b33024_3a.length:Int)==0)then(some 14)
 else(Ac (EN N b33024_3a) fun r50 =>
 some r50)))))))
def BN (N:Nat) (p0:List Yq2):Option Int :=
 bif decide ((p0.length:Int)>4)then(some 2)
 else(Ap (X:=Int) (Y:=Unit) (fun t11a k1 x2 =>
 bif decide (t11a<(p0.length:Int))then(chk (decide (0<=t11a)) <|
 chk (decide (t11a<(p0.length:Int))) <|
 Ac (GM N (p0.getD t11a.toNat (([]:List Yq1),0,false,([]:List Yq0)))) fun r16 =>
 bif (r16 != 0)then(some r16)
 else(k1 (i64.wrap (t11a+1))))
 else(x2 ()))
 N 0 (fun _ =>
 some 0))
def OH (N:Nat):Option (List Yq5) :=
 some ([(([50,46,53,46,50,57,46,49,57]:Bs),1,111,112,113),(([50,46,53,46,50,57,46,49,53]:Bs),1,114,115,116),(([50,46,53,46,50,57,46,51,55]:Bs),2,117,118,119),(([50,46,53,46,50,57,46,51,50]:Bs),2,120,121,122),(([50,46,53,46,50,57,46,51,51]:Bs),2,123,124,125),(([50,46,53,46,50,57,46,51,54]:Bs),1,126,127,128),(([50,46,53,46,50,57,46,53,52]:Bs),1,129,130,131),(([50,46,53,46,50,57,46,49,55]:Bs),2,132,133,134),(([50,46,53,46,50,57,46,51,48]:Bs),1,135,136,137),(([50,46,53,46,50,57,46,49,52]:Bs),0,138,139,140),(([50,46,53,46,50,57,46,51,53]:Bs),0,141,142,143),(([50,46,53,46,50,57,46,51,49]:Bs),0,144,145,146),(([50,46,53,46,50,57,46,52,54]:Bs),0,147,148,149)]:List Yq5)
def EX (N:Nat) (p0:Int):Option Bool :=
 chk ((decide (p0>=((-1):Int)))||(!(decide (p0>=((-1):Int))))) <|
 chk (bif decide (p0>=((-1):Int))then decide (p0>=((-1):Int))else true) <|
 chk (bif decide (p0>=((-1):Int))then true else true) <|
 let x8:Bool:=bif decide (p0>=((-1):Int))then decide (p0<=64)else false
 some x8
def N7 (N:Nat) (p0:List Bs) (p1:Int):Option Int :=
 bif decide ((p0.length:Int)>p1)then(some 2)
 else(Ap (X:=Int) (Y:=Unit) (fun t15a k1 x2 =>
 bif decide (t15a<(p0.length:Int))then(chk (decide (0<=t15a)) <|
 chk (decide (t15a<(p0.length:Int))) <|
 Ac (GR N (p0.getD t15a.toNat ([]:Bs))) fun r21 =>
 bif !r21 then(some 11)
 else(chk (decide (0<=t15a)) <|
 chk (decide (t15a<=(p0.length:Int))) <|
 Ap (X:=Int) (Y:=Unit) (fun t27b k3 x4 =>
 bif decide (t27b<((Ar p0 0 t15a.toNat).length:Int))then(chk (decide (0<=t27b)) <|
 chk (decide (t27b<((Ar p0 0 t15a.toNat).length:Int))) <|
 let x33:Bool:=((p0.getD t15a.toNat ([]:Bs))==((Ar p0 0 t15a.toNat).getD t27b.toNat ([]:Bs)))
 bif x33 then(some 10)
 else(k3 (i64.wrap (t27b+1))))
 else(x4 ()))
 N 0 (fun _ =>
 k1 (i64.wrap (t15a+1)))))
 else(x2 ()))
 N 0 (fun _ =>
 some 0))
def Og (N:Nat) (p0:List (Bs×Bs)):Option Int :=
 bif decide ((p0.length:Int)>8)then(some 2)
 else(Ap (X:=Int) (Y:=Unit) (fun t12a k1 x2 =>
 bif decide (t12a<(p0.length:Int))then(chk (decide (0<=t12a)) <|
 chk (decide (t12a<(p0.length:Int))) <|
 Ac (GR N ((p0.getD t12a.toNat (([]:Bs),([]:Bs))).1)) fun r19 =>
 chk ((!!r19)||(!(!!r19))) <|
 chk ((!!r19)||(!(!!r19))) <|
 chk (((GR N ((p0.getD t12a.toNat (([]:Bs),([]:Bs))).2)).isSome)||(!(!!r19))) <|
 let r24:=(GR N ((p0.getD t12a.toNat (([]:Bs),([]:Bs))).2)).getD default
 chk ((!!r19)||(!(!!r19))) <|
 chk (bif !r19 then true else !(!r19)) <|
 chk (bif !r19 then true else true) <|
 bif bif !r19 then true else !r24 then(some 11)
 else(chk (decide (0<=t12a)) <|
 chk (decide (t12a<=(p0.length:Int))) <|
 Ap (X:=Int×Bs×Bs) (Y:=Unit) (U3 fun t31b b33792_0b b33792_1b k3 x4 =>
 bif decide (t31b<((Ar p0 0 t12a.toNat).length:Int))then(chk (decide (0<=t31b)) <|
 chk (decide (t31b<((Ar p0 0 t12a.toNat).length:Int))) <|
 let x37:Bool:=((b33792_0b==(((Ar p0 0 t12a.toNat).getD t31b.toNat (([]:Bs),([]:Bs))).1))&&((b33792_1b==(((Ar p0 0 t12a.toNat).getD t31b.toNat (([]:Bs),([]:Bs))).2))&&true))
 bif x37 then(some 10)
 else(k3 (i64.wrap (t31b+1),b33792_0b,b33792_1b)))
 else(x4 ()))
 N (0,(p0.getD t12a.toNat (([]:Bs),([]:Bs))).1,(p0.getD t12a.toNat (([]:Bs),([]:Bs))).2) (fun _ =>
 k1 (i64.wrap (t12a+1)))))
 else(x2 ()))
 N 0 (fun _ =>
 some 0))
def Tc (N:Nat) (p0:Yq6):Option Int :=
 chk (((p0.1.length:Int)==0)||(!((p0.1.length:Int)==0))) <|
 chk (((p0.1.length:Int)==0)||(!((p0.1.length:Int)==0))) <|
 chk (((p0.1.length:Int)==0)||(!((p0.1.length:Int)==0))) <|
 chk (bif ((p0.1.length:Int)==0)then((p0.1.length:Int)==0)else true) <|
 chk (bif ((p0.1.length:Int)==0)then true else true) <|
 let x17:Bool:=bif ((p0.1.length:Int)==0)then((p0.2.length:Int)==0)else false
 bif x17 then(some 7)
 else(chk ((!(decide ((p0.1.length:Int)>16)))||(!(!(decide ((p0.1.length:Int)>16))))) <|
 chk ((!(decide ((p0.1.length:Int)>16)))||(!(!(decide ((p0.1.length:Int)>16))))) <|
 chk ((!(decide ((p0.1.length:Int)>16)))||(!(!(decide ((p0.1.length:Int)>16))))) <|
 chk (bif decide ((p0.1.length:Int)>16)then true else !(decide ((p0.1.length:Int)>16))) <|
 chk (bif decide ((p0.1.length:Int)>16)then true else true) <|
 let x27:Bool:=bif decide ((p0.1.length:Int)>16)then true else decide ((p0.2.length:Int)>16)
 bif x27 then(some 2)
 else(Ap (X:=Int×List (List Yq1)) (Y:=Unit) (U2 fun t34a l40960a k1 x2 =>
 bif decide (t34a<2)then(chk (decide (0<=t34a)) <|
 chk (decide (t34a<(l40960a.length:Int))) <|
 chk (decide (t34a.toNat<l40960a.length)) <|
 Ap (X:=Int×List (List Yq1)) (Y:=(List (List Yq1))) (U2 fun t40b l40960b k3 x4 =>
 let x41:Bool:=decide (t40b<((l40960a.getD t34a.toNat ([]:List Yq1)).length:Int))
 bif x41 then(chk (decide (0<=t40b)) <|
 chk (decide (t40b<((l40960a.getD t34a.toNat ([]:List Yq1)).length:Int))) <|
 Ac (FP N ((l40960a.getD t34a.toNat ([]:List Yq1)).getD t40b.toNat (0,([]:Bs),([]:List Yq0))) true) fun r45 =>
 bif (r45 != 0)then(some r45)
 else(k3 (i64.wrap (t40b+1),l40960b)))
 else(x4 l40960b))
 N (0,l40960a) (fun l40960c =>
 k1 (i64.wrap (t34a+1),l40960c)))
 else(x2 ()))
 N (0,([p0.1,p0.2]:List (List Yq1))) (fun _ =>
 some 0)))
def JX (N:Nat) (p0:Yq4):Option Int :=
 bif p0.2.2.2.2.2.2.2.2.2.2.2.1 then(Ac (Tc N (p0.2.2.2.2.2.2.2.2.2.2.2.2.1,p0.2.2.2.2.2.2.2.2.2.2.2.2.2.1)) fun r7 =>
 some r7)
 else(chk ((!(decide ((p0.2.2.2.2.2.2.2.2.2.2.2.2.1.length:Int)>0)))||(!(!(decide ((p0.2.2.2.2.2.2.2.2.2.2.2.2.1.length:Int)>0))))) <|
 chk ((!(decide ((p0.2.2.2.2.2.2.2.2.2.2.2.2.1.length:Int)>0)))||(!(!(decide ((p0.2.2.2.2.2.2.2.2.2.2.2.2.1.length:Int)>0))))) <|
 chk ((!(decide ((p0.2.2.2.2.2.2.2.2.2.2.2.2.1.length:Int)>0)))||(!(!(decide ((p0.2.2.2.2.2.2.2.2.2.2.2.2.1.length:Int)>0))))) <|
 chk ((!(decide ((p0.2.2.2.2.2.2.2.2.2.2.2.2.1.length:Int)>0)))||(!(!(decide ((p0.2.2.2.2.2.2.2.2.2.2.2.2.1.length:Int)>0))))) <|
 chk (bif decide ((p0.2.2.2.2.2.2.2.2.2.2.2.2.1.length:Int)>0)then true else !(decide ((p0.2.2.2.2.2.2.2.2.2.2.2.2.1.length:Int)>0))) <|
 chk (bif decide ((p0.2.2.2.2.2.2.2.2.2.2.2.2.1.length:Int)>0)then true else true) <|
 let x19:Bool:=bif decide ((p0.2.2.2.2.2.2.2.2.2.2.2.2.1.length:Int)>0)then true else decide ((p0.2.2.2.2.2.2.2.2.2.2.2.2.2.1.length:Int)>0)
 bif x19 then(some 7)
 else(some 0))
def gK (N:Nat) (p0:Bs):Option (Yq5×Bool) :=
 Ac (OH N) fun r6 =>
 Ap (X:=Int) (Y:=Unit) (fun t8a k1 x2 =>
 bif decide (t8a<(r6.length:Int))then(chk (decide (0<=t8a)) <|
 chk (decide (t8a<(r6.length:Int))) <|
 bif (((r6.getD t8a.toNat (([]:Bs),0,0,0,0)).1)==p0)then(some ((r6.getD t8a.toNat (([]:Bs),0,0,0,0)),true))
 else(k1 (i64.wrap (t8a+1))))
 else(x2 ()))
 N 0 (fun _ =>
 some ((([]:Bs),0,0,0,0),false))
def lX (N:Nat) (p0:Int):Option Int :=
 bif (p0==1)then(some 128)
 else(let x8:Int:=IntKind.u64.wrap ((8:Int)*(IntKind.u64.wrap (i64.wrap (p0 - 1))))
 chk (decide (0<=x8)) <|
 some (i64.wrap ((1:Int)*(2 ^ (min x8.toNat 64)))))
def Oa (N:Nat) (p0:Bs):Option ((Int×Bs×Bs)×Bs×Int) :=
 bif (p0==([]:Bs))then(some ((0,([]:Bs),([]:Bs)),([]:Bs),3))
 else(chk (decide (0<(p0.length:Int))) <|
 let x20:Bool:=((Ba .and .i64 (i64.wrap ((p0.getD 0 0).toNat:Int)) 31)==31)
 bif x20 then(some ((0,([]:Bs),([]:Bs)),([]:Bs),5))
 else(bif decide ((p0.length:Int)<2)then(some ((0,([]:Bs),([]:Bs)),([]:Bs),3))
 else(chk (decide (1<(p0.length:Int))) <|
 chk ((!((i64.wrap ((p0.getD 1 0).toNat:Int))==128))||(!(!((i64.wrap ((p0.getD 1 0).toNat:Int))==128)))) <|
 chk (bif ((i64.wrap ((p0.getD 1 0).toNat:Int))==128)then true else !((i64.wrap ((p0.getD 1 0).toNat:Int))==128)) <|
 chk (bif ((i64.wrap ((p0.getD 1 0).toNat:Int))==128)then true else true) <|
 let x34:Bool:=bif ((i64.wrap ((p0.getD 1 0).toNat:Int))==128)then true else decide ((i64.wrap ((p0.getD 1 0).toNat:Int))>131)
 bif x34 then(some ((0,([]:Bs),([]:Bs)),([]:Bs),6))
 else(Dz (α :=Int×Int) (fun j1 =>
 bif decide ((i64.wrap ((p0.getD 1 0).toNat:Int))>128)then(let x39:Int:=i64.wrap ((i64.wrap ((p0.getD 1 0).toNat:Int)) - 128)
 bif decide ((p0.length:Int)<(i64.wrap ((2:Int)+x39)))then(some ((0,([]:Bs),([]:Bs)),([]:Bs),3))
 else(chk (decide (2<=i64.wrap ((2:Int)+x39))) <|
 chk (decide (i64.wrap ((2:Int)+x39)<=(p0.length:Int))) <|
 chk (decide ((Ar p0 2 ((i64.wrap ((2:Int)+x39)).toNat)).length<=140737488355328)) <|
 let y45568:List Int:=List.map (fun(b:UInt8)=>(b.toNat:Int)) (Ar p0 2 ((i64.wrap ((2:Int)+x39)).toNat))
 Ap (X:=Int×Int×List Int) (Y:=Int) (U3 fun t7b t52b l45568b k2 x3 =>
 bif decide (t52b<(y45568.length:Int))then(chk (decide (0<=t52b)) <|
 chk (decide (t52b<(l45568b.length:Int))) <|
 chk (decide (t52b.toNat<l45568b.length)) <|
 let x60:Int:=Ba .or .i64 (i64.wrap (t7b*(256))) (i64.wrap (l45568b.getD t52b.toNat 0))
 k2 (x60,i64.wrap (t52b+1),l45568b))
 else(x3 t7b))
 N (0,0,y45568) (fun t7c =>
 Ac (lX N x39) fun r67 =>
 chk ((!(decide (t7c<r67)))||(!(!(decide (t7c<r67))))) <|
 chk (bif decide (t7c<r67)then true else !(decide (t7c<r67))) <|
 chk (bif decide (t7c<r67)then true else true) <|
 bif bif decide (t7c<r67)then true else decide (t7c>131072)then(some ((0,([]:Bs),([]:Bs)),([]:Bs),6))
 else(j1 (t7c,i64.wrap ((2:Int)+x39))))))
 else(j1 (i64.wrap ((p0.getD 1 0).toNat:Int),2)))
 (U2 fun t7a t8a =>
 bif decide ((i64.wrap ((p0.length:Int) - t8a))<t7a)then(some ((0,([]:Bs),([]:Bs)),([]:Bs),3))
 else(chk (decide (0<=t8a)) <|
 chk (decide (t8a<=i64.wrap (t8a+t7a))) <|
 chk (decide (i64.wrap (t8a+t7a)<=(p0.length:Int))) <|
 chk (decide (0<=i64.wrap (t8a+t7a))) <|
 chk (decide (i64.wrap (t8a+t7a)<=(p0.length:Int))) <|
 chk (decide (0<=i64.wrap (t8a+t7a))) <|
 chk (decide (i64.wrap (t8a+t7a)<=(p0.length:Int))) <|
 some ((i64.wrap ((p0.getD 0 0).toNat:Int),Ar p0 t8a.toNat ((i64.wrap (t8a+t7a)).toNat),Ar p0 0 ((i64.wrap (t8a+t7a)).toNat)),Ar p0 ((i64.wrap (t8a+t7a)).toNat) p0.length,0)))))))
def Ut (N:Nat) (p0:Bs):Option ((Int×Bs×Bs)×Int) :=
 Ac (Oa N p0) fun r9 =>
 bif (r9.2.2 != 0)then(some ((0,([]:Bs),([]:Bs)),r9.2.2))
 else(bif !(r9.2.1==([]:Bs))then(some ((0,([]:Bs),([]:Bs)),4))
 else(some (r9.1,0)))
abbrev V9:Type:=Int
def zU (N:Nat) (F:(Int×Bs×Bs)->Int->Option V9) (p0:Int×Bs×Bs) (p1:Int):Option V9 :=
 bif ((Ba .and .i64 p0.1 32)==0)then(some 0)
 else(Ap (X:=Bs) (Y:=Unit) (fun t5a k1 x2 =>
 bif !(t5a==([]:Bs))then(Ac (Oa N t5a) fun r20 =>
 bif (r20.2.2 != 0)then(some r20.2.2)
 else(bif decide (p1>=16)then(some 8)
 else(Ac (F r20.1 (i64.wrap (p1+1))) fun r32 =>
 bif (r32 != 0)then(some r32)
 else(k1 r20.2.1))))
 else(x2 ()))
 N p0.2.1 (fun _ =>
 some 0))
def aV (N:Nat):Nat->(Int×Bs×Bs)->Int->Option V9
  | 0=>fun p0 p1=>none
  | n+1=>fun p0 p1=>zU N (aV N n) p0 p1
def AbU (N:Nat) (p0:Bs):Option Int :=
 Ac (Ut N p0) fun r7 =>
 bif (r7.2 != 0)then(some r7.2)
 else(Ac (aV N N r7.1 1) fun r14 =>
 some r14)
def OG (N:Nat) (p0:Yq3):Option Int :=
 Ap (X:=Int) (Y:=Unit) (fun t12a k1 x2 =>
 bif decide (t12a<(p0.length:Int))then(chk (decide (0<=t12a)) <|
 chk (decide (t12a<(p0.length:Int))) <|
 Ac (GR N ((p0.getD t12a.toNat (([]:Bs),false,([]:Bs))).1)) fun r19 =>
 bif !r19 then(some 11)
 else(Ac (gK N ((p0.getD t12a.toNat (([]:Bs),false,([]:Bs))).1)) fun r24 =>
 bif r24.2 then(some 20)
 else(chk (decide (0<=t12a)) <|
 chk (decide (t12a<=(p0.length:Int))) <|
 Ap (X:=Int×Bs×Bool×Bs) (Y:=(Bs×Bool×Bs)) (U4 fun t32b b33792_0b b33792_1b b33792_2b k3 x4 =>
 bif decide (t32b<((Ar p0 0 t12a.toNat).length:Int))then(chk (decide (0<=t32b)) <|
 chk (decide (t32b<((Ar p0 0 t12a.toNat).length:Int))) <|
 let x37:Bs:=((Ar p0 0 t12a.toNat).getD t32b.toNat (([]:Bs),false,([]:Bs))).1
 bif (x37==b33792_0b)then(some 10)
 else(k3 (i64.wrap (t32b+1),b33792_0b,b33792_1b,b33792_2b)))
 else(x4 (b33792_0b,b33792_1b,b33792_2b)))
 N (0,(p0.getD t12a.toNat (([]:Bs),false,([]:Bs))).1,(p0.getD t12a.toNat (([]:Bs),false,([]:Bs))).2.1,(p0.getD t12a.toNat (([]:Bs),false,([]:Bs))).2.2) (U3 fun b33792_0c b33792_1c b33792_2c =>
 Ac (AbU N b33792_2c) fun r44 =>
 bif (r44 != 0)then(some r44)
 else(k1 (i64.wrap (t12a+1)))))))
 else(x2 ()))
 N 0 (fun _ =>
 some 0)
def Qp (N:Nat) (p0:Yq4):Option Bool :=
 some p0.1
def Qq (N:Nat) (p0:Yq4):Option Bool :=
 some (p0.2.2.2.1 != 0)
def Qr (N:Nat) (p0:Yq4):Option Bool :=
 some (decide ((p0.2.2.2.2.1.length:Int)>0))
def Qs (N:Nat) (p0:Yq4):Option Bool :=
 some (decide ((p0.2.2.2.2.2.1.length:Int)>0))
def Qu (N:Nat) (p0:Yq4):Option Bool :=
 some (decide ((p0.2.2.2.2.2.2.1.length:Int)>0))
def Qv (N:Nat) (p0:Yq4):Option Bool :=
 chk ((!(p0.2.2.2.2.2.2.2.1 != ((-1):Int)))||(!(!(p0.2.2.2.2.2.2.2.1 != ((-1):Int))))) <|
 chk ((!(p0.2.2.2.2.2.2.2.1 != ((-1):Int)))||(!(!(p0.2.2.2.2.2.2.2.1 != ((-1):Int))))) <|
 chk (bif (p0.2.2.2.2.2.2.2.1 != ((-1):Int))then true else !(p0.2.2.2.2.2.2.2.1 != ((-1):Int))) <|
 chk (bif (p0.2.2.2.2.2.2.2.1 != ((-1):Int))then true else true) <|
 let x10:Bool:=bif (p0.2.2.2.2.2.2.2.1 != ((-1):Int))then true else(p0.2.2.2.2.2.2.2.2.1 != ((-1):Int))
 some x10
def Qw (N:Nat) (p0:Yq4):Option Bool :=
 some (p0.2.2.2.2.2.2.2.2.2.1 != ((-1):Int))
def Qx (N:Nat) (p0:Yq4):Option Bool :=
 some (decide ((p0.2.2.2.2.2.2.2.2.2.2.1.length:Int)>0))
def Qy (N:Nat) (p0:Yq4):Option Bool :=
 some p0.2.2.2.2.2.2.2.2.2.2.2.1
def OI (N:Nat) (p0:Yq4):Option Bool :=
 some (!(p0.2.2.2.2.2.2.2.2.2.2.2.2.2.2.1==([]:Bs)))
def OJ (N:Nat) (p0:Yq4):Option Bool :=
 some (!(p0.2.2.2.2.2.2.2.2.2.2.2.2.2.2.2.1==([]:Bs)))
def OL (N:Nat) (p0:Yq4):Option Bool :=
 let x6:Bool:=decide ((p0.2.2.2.2.2.2.2.2.2.2.2.2.2.2.2.2.1.length:Int)>0)
 some x6
def OM (N:Nat) (p0:Yq4):Option Bool :=
 let x6:Bool:=decide ((p0.2.2.2.2.2.2.2.2.2.2.2.2.2.2.2.2.2.1.length:Int)>0)
 some x6
def Aaq (N n:Nat) (a:Yq4):Option (Bool) :=
  bif Nat.beq n 111 then Qp N a else
  bif Nat.beq n 114 then Qq N a else
  bif Nat.beq n 117 then Qr N a else
  bif Nat.beq n 120 then Qs N a else
  bif Nat.beq n 123 then Qu N a else
  bif Nat.beq n 126 then Qv N a else
  bif Nat.beq n 129 then Qw N a else
  bif Nat.beq n 132 then Qx N a else
  bif Nat.beq n 135 then Qy N a else
  bif Nat.beq n 138 then OI N a else
  bif Nat.beq n 141 then OJ N a else
  bif Nat.beq n 144 then OL N a else
  bif Nat.beq n 147 then OM N a else
  none
def bD (N:Nat) (p0:Yq4):Option Int :=
 Ah (p0.2.1) fun b1 =>
 chk (b1||(!b1)) <|
 chk (b1||(!b1)) <|
 chk (bif b1 then b1 else true) <|
 chk (bif b1 then true else true) <|
 Ah (bif b1 then !p0.1 else false) fun b2 =>
 Ah (b2) fun b3 =>
 chk (!b3|| !!b3) <|
 chk (!b3|| !!b3) <|
 chk (!b3|| !!b3) <|
 Ah (p0.2.2.1 != ((-1):Int)) fun b4 =>
 chk (((!b3)&&b4)||(!((!b3)&&b4))) <|
 chk (((!b3)&&b4)||(!((!b3)&&b4))) <|
 chk (!b3|| !!b3) <|
 chk ((bif b4 then((!b3)&&b4)else true)||(!!b3)) <|
 chk ((bif b4 then true else true)||(!!b3)) <|
 Ah (bif b4 then !p0.2.1 else false) fun b5 =>
 chk (bif b3 then true else !b3) <|
 chk (bif b3 then true else true) <|
 Ah (bif b3 then true else b5) fun b6 =>
 bif b6 then(some 7)
 else(Ac (EX N p0.2.2.1) fun r32 =>
 Ah (!r32) fun b7 =>
 chk (!b7|| !!b7) <|
 chk (!b7|| !!b7) <|
 chk (((EX N p0.2.2.2.2.2.2.2.1).isSome)||(!!b7)) <|
 let r37:=(EX N p0.2.2.2.2.2.2.2.1).getD default
 chk (!b7|| !!b7) <|
 chk (bif b7 then true else !b7) <|
 chk (bif b7 then true else true) <|
 Ah (bif b7 then true else !r37) fun b8 =>
 Ah (b8) fun b9 =>
 chk (!b9|| !!b9) <|
 chk (!b9|| !!b9) <|
 chk (((EX N p0.2.2.2.2.2.2.2.2.1).isSome)||(!!b9)) <|
 let r43:=(EX N p0.2.2.2.2.2.2.2.2.1).getD default
 chk (!b9|| !!b9) <|
 chk (bif b9 then true else !b9) <|
 chk (bif b9 then true else true) <|
 Ah (bif b9 then true else !r43) fun b10 =>
 Ah (b10) fun b11 =>
 chk (!b11|| !!b11) <|
 chk (!b11|| !!b11) <|
 chk (((EX N p0.2.2.2.2.2.2.2.2.2.1).isSome)||(!!b11)) <|
 let r49:=(EX N p0.2.2.2.2.2.2.2.2.2.1).getD default
 chk (!b11|| !!b11) <|
 chk (bif b11 then true else !b11) <|
 chk (bif b11 then true else true) <|
 Ah (bif b11 then true else !r49) fun b12 =>
 Ah (b12) fun b13 =>
 chk (!b13|| !!b13) <|
 chk (!b13|| !!b13) <|
 chk (bif b13 then true else !b13) <|
 chk (bif b13 then true else true) <|
 Ah (bif b13 then true else decide (p0.2.2.2.1<0)) fun b14 =>
 Ah (b14) fun b15 =>
 chk (!b15|| !!b15) <|
 chk (!b15|| !!b15) <|
 chk (bif b15 then true else !b15) <|
 chk (bif b15 then true else true) <|
 Ah (bif b15 then true else decide (p0.2.2.2.1>511)) fun b16 =>
 bif b16 then(some 1)
 else(Ac (N7 N p0.2.2.2.2.1 8) fun r64 =>
 bif (r64 != 0)then(some r64)
 else(Ac (N7 N p0.2.2.2.2.2.1 8) fun r70 =>
 bif (r70 != 0)then(some r70)
 else(Ac (Og N p0.2.2.2.2.2.2.1) fun r76 =>
 bif (r76 != 0)then(some r76)
 else(bif decide ((p0.2.2.2.2.2.2.2.2.2.2.1.length:Int)>16)then(some 2)
 else(Ac (EW N p0.2.2.2.2.2.2.2.2.2.2.1) fun r86 =>
 bif (r86 != 0)then(some r86)
 else(Ac (JX N p0) fun r91 =>
 bif (r91 != 0)then(some r91)
 else(chk ((!(decide ((p0.2.2.2.2.2.2.2.2.2.2.2.2.2.2.1.length:Int)>32)))||(!(!(decide ((p0.2.2.2.2.2.2.2.2.2.2.2.2.2.2.1.length:Int)>32))))) <|
 chk ((!(decide ((p0.2.2.2.2.2.2.2.2.2.2.2.2.2.2.1.length:Int)>32)))||(!(!(decide ((p0.2.2.2.2.2.2.2.2.2.2.2.2.2.2.1.length:Int)>32))))) <|
 chk ((!(decide ((p0.2.2.2.2.2.2.2.2.2.2.2.2.2.2.1.length:Int)>32)))||(!(!(decide ((p0.2.2.2.2.2.2.2.2.2.2.2.2.2.2.1.length:Int)>32))))) <|
 let x103:Bool:=decide ((p0.2.2.2.2.2.2.2.2.2.2.2.2.2.2.2.1.length:Int)>32)
 chk (bif decide ((p0.2.2.2.2.2.2.2.2.2.2.2.2.2.2.1.length:Int)>32)then true else !(decide ((p0.2.2.2.2.2.2.2.2.2.2.2.2.2.2.1.length:Int)>32))) <|
 chk (bif decide ((p0.2.2.2.2.2.2.2.2.2.2.2.2.2.2.1.length:Int)>32)then true else true) <|
 let x104:Bool:=bif decide ((p0.2.2.2.2.2.2.2.2.2.2.2.2.2.2.1.length:Int)>32)then true else x103
 bif x104 then(some 2)
 else(Ac (BN N p0.2.2.2.2.2.2.2.2.2.2.2.2.2.2.2.2.1) fun r107 =>
 bif (r107 != 0)then(some r107)
 else(Ac (BN N p0.2.2.2.2.2.2.2.2.2.2.2.2.2.2.2.2.2.1) fun r113 =>
 bif (r113 != 0)then(some r113)
 else(Ac (OH N) fun r120 =>
 Ap (X:=Int×Int×Bool×Bool×Int×Int×List Bs×List Bs×(List (Bs×Bs))×Int×Int×Int×List Yq1×Bool×List Yq1×List Yq1×Bs×Bs×List Yq2×List Yq2×List (Bs×Bool×Bs)) (Y:=(Int×Bool×Bool×Int×Int×List Bs×List Bs×(List (Bs×Bs))×Int×Int×Int×List Yq1×Bool×List Yq1×List Yq1×Bs×Bs×List Yq2×List Yq2×List (Bs×Bool×Bs))) (U21 fun t10a t122a b33024_0a b33024_1a b33024_2a b33024_3a b33024_4a b33024_5a b33024_6a b33024_7a b33024_8a b33024_9a b33024_10a b33024_11a b33024_12a b33024_13a b33024_14a b33024_15a b33024_16a b33024_17a b33024_18a k17 x18 =>
 bif decide (t122a<(r120.length:Int))then(chk (decide (0<=t122a)) <|
 chk (decide (t122a<(r120.length:Int))) <|
 Ac (Aaq N ((r120.getD t122a.toNat (([]:Bs),0,0,0,0)).2.2.1) (b33024_0a,b33024_1a,b33024_2a,b33024_3a,b33024_4a,b33024_5a,b33024_6a,b33024_7a,b33024_8a,b33024_9a,b33024_10a,b33024_11a,b33024_12a,b33024_13a,b33024_14a,b33024_15a,b33024_16a,b33024_17a,b33024_18a)) fun r129 =>
 bif r129 then(k17 (i64.wrap (t10a+1),i64.wrap (t122a+1),b33024_0a,b33024_1a,b33024_2a,b33024_3a,b33024_4a,b33024_5a,b33024_6a,b33024_7a,b33024_8a,b33024_9a,b33024_10a,b33024_11a,b33024_12a,b33024_13a,b33024_14a,b33024_15a,b33024_16a,b33024_17a,b33024_18a))
 else(k17 (t10a,i64.wrap (t122a+1),b33024_0a,b33024_1a,b33024_2a,b33024_3a,b33024_4a,b33024_5a,b33024_6a,b33024_7a,b33024_8a,b33024_9a,b33024_10a,b33024_11a,b33024_12a,b33024_13a,b33024_14a,b33024_15a,b33024_16a,b33024_17a,b33024_18a)))
 else(x18 (t10a,b33024_0a,b33024_1a,b33024_2a,b33024_3a,b33024_4a,b33024_5a,b33024_6a,b33024_7a,b33024_8a,b33024_9a,b33024_10a,b33024_11a,b33024_12a,b33024_13a,b33024_14a,b33024_15a,b33024_16a,b33024_17a,b33024_18a)))
 N ((p0.2.2.2.2.2.2.2.2.2.2.2.2.2.2.2.2.2.2.length:Int),0,p0.1,p0.2.1,p0.2.2.1,p0.2.2.2.1,p0.2.2.2.2.1,p0.2.2.2.2.2.1,p0.2.2.2.2.2.2.1,p0.2.2.2.2.2.2.2.1,p0.2.2.2.2.2.2.2.2.1,p0.2.2.2.2.2.2.2.2.2.1,p0.2.2.2.2.2.2.2.2.2.2.1,p0.2.2.2.2.2.2.2.2.2.2.2.1,p0.2.2.2.2.2.2.2.2.2.2.2.2.1,p0.2.2.2.2.2.2.2.2.2.2.2.2.2.1,p0.2.2.2.2.2.2.2.2.2.2.2.2.2.2.1,p0.2.2.2.2.2.2.2.2.2.2.2.2.2.2.2.1,p0.2.2.2.2.2.2.2.2.2.2.2.2.2.2.2.2.1,p0.2.2.2.2.2.2.2.2.2.2.2.2.2.2.2.2.2.1,p0.2.2.2.2.2.2.2.2.2.2.2.2.2.2.2.2.2.2) (U20 fun t10b b33024_0b b33024_1b b33024_2b b33024_3b b33024_4b b33024_5b b33024_6b b33024_7b b33024_8b b33024_9b b33024_10b b33024_11b b33024_12b b33024_13b b33024_14b b33024_15b b33024_16b b33024_17b b33024_18b =>
 bif decide (t10b>24)then(some 2)
 else(Ac (OG N b33024_18b) fun r137 =>
 some r137)))))))))))))
def Ik (N:Nat) (p0:Bool):Option (Bool×Bool) :=
 some (p0,p0)
def BF (N:Nat) (p0:Bool) (p1:Bs) (p2:Int):Option (Bs×Bool) :=
 chk (!p0|| !!p0) <|
 chk (bif p0 then true else !p0) <|
 chk (bif p0 then true else true) <|
 some (p1,bif p0 then true else(p2 != 0))
def Ci (N:Nat) (p0:Int) (p1:List Bs):Option (Bs×Int) :=
 chk ((!(decide (p0<0)))||(!(!(decide (p0<0))))) <|
 chk (bif decide (p0<0)then true else !(decide (p0<0))) <|
 chk (bif decide (p0<0)then true else true) <|
 chk ((!(bif decide (p0<0)then true else decide (p0>255)))||(!(!(bif decide (p0<0)then true else decide (p0>255))))) <|
 chk ((!(bif decide (p0<0)then true else decide (p0>255)))||(!(!(bif decide (p0<0)then true else decide (p0>255))))) <|
 chk (bif bif decide (p0<0)then true else decide (p0>255)then true else !(bif decide (p0<0)then true else decide (p0>255))) <|
 chk (bif bif decide (p0<0)then true else decide (p0>255)then true else true) <|
 let x20:Bool:=bif bif decide (p0<0)then true else decide (p0>255)then true else((Ba .and .i64 p0 31)==31)
 bif x20 then(some (([]:Bs),5))
 else(Ap (X:=Int×Int) (Y:=Int) (U2 fun t6a t23a k1 x2 =>
 bif decide (t23a<(p1.length:Int))then(chk (decide (0<=t23a)) <|
 chk (decide (t23a<(p1.length:Int))) <|
 let x31:Bool:=decide (((p1.getD t23a.toNat ([]:Bs)).length:Int)>(i64.wrap ((131072:Int) - t6a)))
 bif x31 then(some (([]:Bs),6))
 else(k1 (i64.wrap (t6a+((p1.getD t23a.toNat ([]:Bs)).length:Int)),i64.wrap (t23a+1))))
 else(x2 t6a))
 N (0,0) (fun t6b =>
 Dz (α :=List Int) (fun j3 =>
 bif decide (t6b<128)then(j3 ([IntKind.u8.wrap p0,IntKind.u8.wrap t6b]:List Int))
 else(bif decide (t6b<256)then(j3 ([IntKind.u8.wrap p0,129,IntKind.u8.wrap t6b]:List Int))
 else(bif decide (t6b<65536)then(j3 ([IntKind.u8.wrap p0,130,IntKind.u8.wrap (t6b.fdiv (256)),IntKind.u8.wrap t6b]:List Int))
 else(j3 ([IntKind.u8.wrap p0,131,IntKind.u8.wrap (t6b.fdiv (65536)),IntKind.u8.wrap (t6b.fdiv (256)),IntKind.u8.wrap t6b]:List Int)))))
 (fun l1008192c =>
 chk (List.all l1008192c isByte) <|
 Ac (strings_Join N p1 ([]:Bs)) fun r81 =>
 chk (decide ((List.map byteOf l1008192c).length+r81.length<=140737488355328)) <|
 some ((List.map byteOf l1008192c)++r81,0))))
def AV (N:Nat) (p0:Bool) (p1:Int) (p2:List Bs):Option (Bs×Bool) :=
 Ac (Ci N p1 p2) fun r10 =>
 Ac (BF N p0 r10.1 r10.2) fun r13 =>
 some (r13.1,r13.2)
def Bo (N:Nat) (p0:Bool) (p1:List Bs):Option (Bs×Bool) :=
 Ac (AV N p0 48 p1) fun r7 =>
 some (r7.1,r7.2)
def P6 (N:Nat) (p0:Int):Option Bs :=
 Ap (X:=Int×Int) (Y:=Int) (U2 fun t3a t4a k1 x2 =>
 chk ((!(decide (t4a<((-128):Int))))||(!(!(decide (t4a<((-128):Int)))))) <|
 chk (bif decide (t4a<((-128):Int))then true else !(decide (t4a<((-128):Int)))) <|
 chk (bif decide (t4a<((-128):Int))then true else true) <|
 let x13:Bool:=bif decide (t4a<((-128):Int))then true else decide (t4a>127)
 bif x13 then(k1 (i64.wrap (t3a+1),t4a.fdiv (256)))
 else(x2 t3a))
 N (1,p0) (fun t3b =>
 Ap (X:=Int×List Int) (Y:=(List Int)) (U2 fun t19c l1008192c k3 x4 =>
 bif decide (t19c<t3b)then(let x28:Int:=IntKind.u64.wrap (i64.wrap ((i64.wrap (t3b - 1)) - t19c))
 chk (decide (0<=IntKind.u64.wrap ((8:Int)*x28))) <|
 let x31:Int:=IntKind.u8.wrap (p0.fdiv (2 ^ (min (IntKind.u64.wrap ((8:Int)*x28)).toNat 64)))
 chk (decide ((l1008192c.length+1)*2<=140737488355328)) <|
 k3 (i64.wrap (t19c+1),l1008192c++([x31]:List Int)))
 else(x4 l1008192c))
 N (0,([]:List Int)) (fun l1012288d =>
 chk (List.all l1012288d isByte) <|
 some (List.map byteOf l1012288d)))
def Q7 (N:Nat) (p0:Bool) (p1:Int):Option (Bs×Bool) :=
 Ac (P6 N p1) fun r7 =>
 Ac (AV N p0 2 ([r7]:List Bs)) fun r9 =>
 some (r9.1,r9.2)
def WG (N:Nat) (p0:Bool):Option Bs :=
 bif p0 then(some ([255]:Bs))
 else(some ([0]:Bs))
def Wh (N:Nat) (p0:Bool) (p1:Int) (p2:Bool):Option (Bs×Bool) :=
 bif !p2 then(some (([]:Bs),p0))
 else(Ac (WG N true) fun r11 =>
 Ac (AV N p0 p1 ([r11]:List Bs)) fun r13 =>
 some (r13.1,r13.2))
def N8 (N:Nat) (p0:Bool) (p1:Yq4):Option (Bs×Bool) :=
 Dz (α :=Bs×Bool×Bool×Bool×Int×Int×List Bs×List Bs×(List (Bs×Bs))×Int×Int×Int×List Yq1×Bool×List Yq1×List Yq1×Bs×Bs×List Yq2×List Yq2×List (Bs×Bool×Bs)) (fun j1 =>
 bif (p1.2.2.1 != ((-1):Int))then(Ac (Q7 N p0 p1.2.2.1) fun r12 =>
 j1 (r12.1,r12.2,p1.1,p1.2.1,p1.2.2.1,p1.2.2.2.1,p1.2.2.2.2.1,p1.2.2.2.2.2.1,p1.2.2.2.2.2.2.1,p1.2.2.2.2.2.2.2.1,p1.2.2.2.2.2.2.2.2.1,p1.2.2.2.2.2.2.2.2.2.1,p1.2.2.2.2.2.2.2.2.2.2.1,p1.2.2.2.2.2.2.2.2.2.2.2.1,p1.2.2.2.2.2.2.2.2.2.2.2.2.1,p1.2.2.2.2.2.2.2.2.2.2.2.2.2.1,p1.2.2.2.2.2.2.2.2.2.2.2.2.2.2.1,p1.2.2.2.2.2.2.2.2.2.2.2.2.2.2.2.1,p1.2.2.2.2.2.2.2.2.2.2.2.2.2.2.2.2.1,p1.2.2.2.2.2.2.2.2.2.2.2.2.2.2.2.2.2.1,p1.2.2.2.2.2.2.2.2.2.2.2.2.2.2.2.2.2.2))
 else(j1 (([]:Bs),p0,p1.1,p1.2.1,p1.2.2.1,p1.2.2.2.1,p1.2.2.2.2.1,p1.2.2.2.2.2.1,p1.2.2.2.2.2.2.1,p1.2.2.2.2.2.2.2.1,p1.2.2.2.2.2.2.2.2.1,p1.2.2.2.2.2.2.2.2.2.1,p1.2.2.2.2.2.2.2.2.2.2.1,p1.2.2.2.2.2.2.2.2.2.2.2.1,p1.2.2.2.2.2.2.2.2.2.2.2.2.1,p1.2.2.2.2.2.2.2.2.2.2.2.2.2.1,p1.2.2.2.2.2.2.2.2.2.2.2.2.2.2.1,p1.2.2.2.2.2.2.2.2.2.2.2.2.2.2.2.1,p1.2.2.2.2.2.2.2.2.2.2.2.2.2.2.2.2.1,p1.2.2.2.2.2.2.2.2.2.2.2.2.2.2.2.2.2.1,p1.2.2.2.2.2.2.2.2.2.2.2.2.2.2.2.2.2.2)))
 (U21 fun t5a b0_0a b33536_0a b33536_1a b33536_2a b33536_3a b33536_4a b33536_5a b33536_6a b33536_7a b33536_8a b33536_9a b33536_10a b33536_11a b33536_12a b33536_13a b33536_14a b33536_15a b33536_16a b33536_17a b33536_18a =>
 Ac (Wh N b0_0a 1 b33536_1a) fun r17 =>
 Ac (Bo N r17.2 ([r17.1,t5a]:List Bs)) fun r20 =>
 some (r20.1,r20.2))
def GI (N:Nat) (p0:Int):Option (Bs×Int) :=
 chk ((!(decide (p0<0)))||(!(!(decide (p0<0))))) <|
 chk (bif decide (p0<0)then true else !(decide (p0<0))) <|
 chk (bif decide (p0<0)then true else true) <|
 bif bif decide (p0<0)then true else decide (p0>65535)then(some (([]:Bs),1))
 else(Ap (X:=Int) (Y:=Int) (fun t4a k1 x2 =>
 chk (decide (0<=IntKind.u64.wrap t4a)) <|
 let x17:Bool:=decide ((p0.fdiv (2 ^ (min (IntKind.u64.wrap t4a).toNat 64)))>0)
 bif x17 then(k1 (i64.wrap (t4a+1)))
 else(x2 t4a))
 N 0 (fun t4b =>
 let x23:Int:=i64.wrap ((1:Int)+(i64.wrap ((i64.wrap (t4b+7)).tdiv 8)))
 chk (decide (x23<=x23)) <|
 chk (decide (0<=x23)) <|
 chk (decide (x23*2<=140737488355328)) <|
 let x28:Int:=i64.wrap (((List.replicate x23.toNat 0:List Int).length:Int) - 1)
 let x32:Int:=IntKind.u8.wrap (i64.wrap ((i64.wrap ((8:Int)*x28)) - t4b))
 chk (decide (0<((List.replicate x23.toNat 0:List Int).length:Int))) <|
 chk (decide (0<(List.replicate x23.toNat 0:List Int).length)) <|
 Ap (X:=Int×List Int) (Y:=(List Int)) (U2 fun t35c l38912c k3 x4 =>
 bif decide (t35c<t4b)then(chk (decide (0<=IntKind.u64.wrap t35c)) <|
 let x42:Int:=Ba .and .i64 (p0.fdiv (2 ^ (min (IntKind.u64.wrap t35c).toNat 64))) 1
 bif (x42==1)then(chk (decide (0<=i64.wrap ((1:Int)+(i64.wrap (t35c.tdiv 8))))) <|
 chk (decide (i64.wrap ((1:Int)+(i64.wrap (t35c.tdiv 8)))<(l38912c.length:Int))) <|
 chk (decide ((i64.wrap ((1:Int)+(i64.wrap (t35c.tdiv 8)))).toNat<l38912c.length)) <|
 let x49:Int:=(l38912c.getD ((i64.wrap ((1:Int)+(i64.wrap (t35c.tdiv 8)))).toNat) 0)
 chk (decide (0<=IntKind.u64.wrap ((7:Int) - (IntKind.u64.wrap (t35c.tmod 8))))) <|
 let x54:Int:=IntKind.u8.wrap ((1:Int)*(2 ^ (min (IntKind.u64.wrap ((7:Int) - (IntKind.u64.wrap (t35c.tmod 8)))).toNat 8)))
 chk (decide (0<=i64.wrap ((1:Int)+(i64.wrap (t35c.tdiv 8))))) <|
 chk (decide (i64.wrap ((1:Int)+(i64.wrap (t35c.tdiv 8)))<(l38912c.length:Int))) <|
 chk (decide ((i64.wrap ((1:Int)+(i64.wrap (t35c.tdiv 8)))).toNat<l38912c.length)) <|
 let y38912:List Int:=l38912c.set ((i64.wrap ((1:Int)+(i64.wrap (t35c.tdiv 8)))).toNat) (Ba .or .u8 x49 x54)
 k3 (i64.wrap (t35c+1),y38912))
 else(k3 (i64.wrap (t35c+1),l38912c)))
 else(x4 l38912c))
 N (0,(List.replicate x23.toNat 0:List Int).set 0 x32) (fun l38912d =>
 chk (List.all l38912d isByte) <|
 some (List.map byteOf l38912d,0))))
def NC (N:Nat) (p0:Bool) (p1:Yq4):Option (Bs×Bool) :=
 Ac (GI N p1.2.2.2.1) fun r9 =>
 Ac (BF N p0 r9.1 r9.2) fun r12 =>
 Ac (AV N r12.2 3 ([r12.1]:List Bs)) fun r14 =>
 some (r14.1,r14.2)
def Yw (N:Nat) (p0:List Int) (p1:Int):Option (List Int) :=
 Ap (X:=Int×List Int) (Y:=(Int×List Int)) (U2 fun t5a l0a k1 x2 =>
 chk (decide (0<=IntKind.u64.wrap ((7:Int)*(IntKind.u64.wrap t5a)))) <|
 let x11:Int:=p1.fdiv (2 ^ (min (IntKind.u64.wrap ((7:Int)*(IntKind.u64.wrap t5a))).toNat 64))
 bif decide (x11>0)then(k1 (i64.wrap (t5a+1),l0a))
 else(x2 (t5a,l0a)))
 N (1,p0) (U2 fun t5b l0b =>
 Ap (X:=Int×List Int) (Y:=(List Int)) (U2 fun t6c l1008192c k3 x4 =>
 bif decide (t6c>0)then(chk (decide (0<=IntKind.u64.wrap ((7:Int)*(IntKind.u64.wrap t6c)))) <|
 let x26:Int:=p1.fdiv (2 ^ (min (IntKind.u64.wrap ((7:Int)*(IntKind.u64.wrap t6c))).toNat 64))
 chk (decide ((l1008192c.length+1)*2<=140737488355328)) <|
 let y40704:List Int:=l1008192c++([IntKind.u8.wrap (Ba .or .i64 (Ba .and .i64 x26 127) 128)]:List Int)
 k3 (i64.wrap (t6c - 1),y40704))
 else(x4 l1008192c))
 N (i64.wrap (t5b - 1),l0b) (fun l1012288d =>
 chk (decide ((l1012288d.length+1)*2<=140737488355328)) <|
 some (l1012288d++([IntKind.u8.wrap (Ba .and .i64 p1 127)]:List Int))))
def Pv (N:Nat) (p0:Bs):Option (Bs×Int) :=
 Ac (Vg N p0) fun r9 =>
 bif r9.isEmpty then(some (([]:Bs),11))
 else(chk (decide (0<(r9.length:Int))) <|
 chk (decide (1<(r9.length:Int))) <|
 let x19:Int:=i64.wrap ((i64.wrap ((40:Int)*(r9.getD 0 0)))+(r9.getD 1 0))
 Ac (Yw N ([]:List Int) x19) fun r20 =>
 chk (decide (2<=(r9.length:Int))) <|
 Ap (X:=Int×List Int) (Y:=(List Int)) (U2 fun t24a l1000000a k1 x2 =>
 bif decide (t24a<((Ar r9 2 r9.length).length:Int))then(chk (decide (0<=t24a)) <|
 chk (decide (t24a<((Ar r9 2 r9.length).length:Int))) <|
 Ac (Yw N l1000000a ((Ar r9 2 r9.length).getD t24a.toNat 0)) fun r30 =>
 k1 (i64.wrap (t24a+1),r30))
 else(x2 l1000000a))
 N (0,r20) (fun l1004096b =>
 chk (List.all l1004096b isByte) <|
 some (List.map byteOf l1004096b,0)))
def Jd (N:Nat) (p0:Bool) (p1:Bs):Option (Bs×Bool) :=
 Ac (Pv N p1) fun r8 =>
 Ac (BF N p0 r8.1 r8.2) fun r11 =>
 Ac (AV N r11.2 6 ([r11.1]:List Bs)) fun r13 =>
 some (r13.1,r13.2)
def J7 (N:Nat) (p0:Bool) (p1:Yq4):Option (Bs×Bool) :=
 Ap (X:=Int×Bool×List Bs) (Y:=(Bool×List Bs)) (U3 fun t11a b0_0a l1000000a k1 x2 =>
 bif decide (t11a<(p1.2.2.2.2.1.length:Int))then(chk (decide (0<=t11a)) <|
 chk (decide (t11a<(p1.2.2.2.2.1.length:Int))) <|
 Ac (Jd N b0_0a (p1.2.2.2.2.1.getD t11a.toNat ([]:Bs))) fun r18 =>
 chk (decide ((l1000000a.length+1)*17<=140737488355328)) <|
 k1 (i64.wrap (t11a+1),r18.2,l1000000a++([r18.1]:List Bs)))
 else(x2 (b0_0a,l1000000a)))
 N (0,p0,([]:List Bs)) (U2 fun b0_0b l1004096b =>
 Ac (Bo N b0_0b l1004096b) fun r24 =>
 some (r24.1,r24.2))
def J6 (N:Nat) (p0:Bool) (p1:Yq4):Option (Bs×Bool) :=
 Ap (X:=Int×Bool×List Bs) (Y:=(Bool×List Bs)) (U3 fun t11a b0_0a l1000000a k1 x2 =>
 bif decide (t11a<(p1.2.2.2.2.2.1.length:Int))then(chk (decide (0<=t11a)) <|
 chk (decide (t11a<(p1.2.2.2.2.2.1.length:Int))) <|
 Ac (Jd N b0_0a (p1.2.2.2.2.2.1.getD t11a.toNat ([]:Bs))) fun r19 =>
 Ac (Bo N r19.2 ([r19.1]:List Bs)) fun r21 =>
 chk (decide ((l1000000a.length+1)*17<=140737488355328)) <|
 k1 (i64.wrap (t11a+1),r21.2,l1000000a++([r21.1]:List Bs)))
 else(x2 (b0_0a,l1000000a)))
 N (0,p0,([]:List Bs)) (U2 fun b0_0b l1004096b =>
 Ac (Bo N b0_0b l1004096b) fun r27 =>
 some (r27.1,r27.2))
def J5 (N:Nat) (p0:Bool) (p1:Yq4):Option (Bs×Bool) :=
 Ap (X:=Int×Bool×List Bs) (Y:=(Bool×List Bs)) (U3 fun t11a b0_0a l1000000a k1 x2 =>
 bif decide (t11a<(p1.2.2.2.2.2.2.1.length:Int))then(chk (decide (0<=t11a)) <|
 chk (decide (t11a<(p1.2.2.2.2.2.2.1.length:Int))) <|
 Ac (Jd N b0_0a ((p1.2.2.2.2.2.2.1.getD t11a.toNat (([]:Bs),([]:Bs))).1)) fun r20 =>
 Ac (Jd N r20.2 ((p1.2.2.2.2.2.2.1.getD t11a.toNat (([]:Bs),([]:Bs))).2)) fun r24 =>
 Ac (Bo N r24.2 ([r20.1,r24.1]:List Bs)) fun r26 =>
 chk (decide ((l1000000a.length+1)*17<=140737488355328)) <|
 k1 (i64.wrap (t11a+1),r26.2,l1000000a++([r26.1]:List Bs)))
 else(x2 (b0_0a,l1000000a)))
 N (0,p0,([]:List Bs)) (U2 fun b0_0b l1004096b =>
 Ac (Bo N b0_0b l1004096b) fun r32 =>
 some (r32.1,r32.2))
def LZ (N:Nat) (p0:Bool) (p1:Yq4):Option (Bs×Bool) :=
 Ap (X:=Int×Bool×List Bs×List Int) (Y:=(Bool×List Bs)) (U4 fun t15a b0_0a l34816a l36096a k1 x2 =>
 bif decide (t15a<2)then(chk (decide (0<=t15a)) <|
 chk (decide (t15a<(l36096a.length:Int))) <|
 chk (decide (t15a.toNat<l36096a.length)) <|
 bif ((l36096a.getD t15a.toNat 0) != ((-1):Int))then(Ac (P6 N (l36096a.getD t15a.toNat 0)) fun r28 =>
 Ac (AV N b0_0a (i64.wrap ((128:Int)+t15a)) ([r28]:List Bs)) fun r30 =>
 chk (decide (0<=t15a)) <|
 chk (decide (t15a<(l34816a.length:Int))) <|
 chk (decide (t15a.toNat<l34816a.length)) <|
 k1 (i64.wrap (t15a+1),r30.2,l34816a.set t15a.toNat r30.1,l36096a))
 else(k1 (i64.wrap (t15a+1),b0_0a,l34816a,l36096a)))
 else(x2 (b0_0a,l34816a)))
 N (0,p0,([([]:Bs),([]:Bs)]:List Bs),([p1.2.2.2.2.2.2.2.1,p1.2.2.2.2.2.2.2.2.1]:List Int)) (U2 fun b0_0b l34816b =>
 Ac (Bo N b0_0b l34816b) fun r35 =>
 some (r35.1,r35.2))
def JZ (N:Nat) (p0:Bool) (p1:Yq4):Option (Bs×Bool) :=
 Ac (Q7 N p0 p1.2.2.2.2.2.2.2.2.2.1) fun r8 =>
 some (r8.1,r8.2)
def Fg (N:Nat) (p0:Bs×Int×Bs):Option (Bs×Int) :=
 Ac (Pv N p0.1) fun r11 =>
 bif (r11.2 != 0)then(some (([]:Bs),r11.2))
 else(Ac (Ci N 6 ([r11.1]:List Bs)) fun r20 =>
 bif (r20.2 != 0)then(some (([]:Bs),r20.2))
 else(Ac (Ci N p0.2.1 ([p0.2.2]:List Bs)) fun r32 =>
 bif (r32.2 != 0)then(some (([]:Bs),r32.2))
 else(Ac (Ci N 48 ([r20.1,r32.1]:List Bs)) fun r41 =>
 some (r41.1,r41.2))))
def OU (N:Nat) (p0:List Yq0):Option (Bs×Int) :=
 Ac (EN N p0) fun r16 =>
 bif (r16 != 0)then(some (([]:Bs),r16))
 else(Ap (X:=Int×List Bs) (Y:=(List Bs)) (U2 fun t23a l1000000a k1 x2 =>
 bif decide (t23a<(p0.length:Int))then(chk (decide (0<=t23a)) <|
 chk (decide (t23a<(p0.length:Int))) <|
 Ap (X:=Int×List Bs×List Bs) (Y:=(List Bs×List Bs)) (U3 fun t29b l1004096b l1004112b k3 x4 =>
 let x30:Bool:=decide (t29b<((p0.getD t23a.toNat ([]:List (Bs×Int×Bs))).length:Int))
 bif x30 then(chk (decide (0<=t29b)) <|
 chk (decide (t29b<((p0.getD t23a.toNat ([]:List (Bs×Int×Bs))).length:Int))) <|
 Ac (Fg N ((p0.getD t23a.toNat ([]:List (Bs×Int×Bs))).getD t29b.toNat (([]:Bs),0,([]:Bs)))) fun r35 =>
 bif (r35.2 != 0)then(some (([]:Bs),r35.2))
 else(chk (decide ((l1004096b.length+1)*17<=140737488355328)) <|
 k3 (i64.wrap (t29b+1),l1004096b++([r35.1]:List Bs),l1004112b)))
 else(x4 (l1004096b,l1004112b)))
 N (0,([]:List Bs),l1000000a) (U2 fun l1008192c l1008208c =>
 Ac (KU N l1008192c) fun r48 =>
 Ac (Ci N 49 ([r48]:List Bs)) fun r50 =>
 bif (r50.2 != 0)then(some (([]:Bs),r50.2))
 else(chk (decide ((l1008208c.length+1)*17<=140737488355328)) <|
 k1 (i64.wrap (t23a+1),l1008208c++([r50.1]:List Bs)))))
 else(x2 l1000000a))
 N (0,([]:List Bs)) (fun l1012288d =>
 Ac (Ci N 48 l1012288d) fun r62 =>
 some (r62.1,r62.2)))
def EY (N:Nat) (p0:Yq1) (p1:Bool):Option (Bs×Int) :=
 Ac (FP N p0 p1) fun r11 =>
 bif (r11 != 0)then(some (([]:Bs),r11))
 else(bif (p0.1 != 4)then(Ac (Ci N (i64.wrap ((128:Int)+p0.1)) ([p0.2.1]:List Bs)) fun r24 =>
 some (r24.1,r24.2))
 else(Ac (OU N p0.2.2) fun r30 =>
 bif (r30.2 != 0)then(some (([]:Bs),r30.2))
 else(Ac (Ci N (i64.wrap ((160:Int)+p0.1)) ([r30.1]:List Bs)) fun r41 =>
 some (r41.1,r41.2))))
def MN (N:Nat) (p0:Int):Option Int :=
 bif (p0==0)then(some 7)
 else(bif decide (p0>16)then(some 2)
 else(some 0))
def EG (N:Nat) (p0:List Yq1):Option (Bs×Int) :=
 Ac (MN N (p0.length:Int)) fun r12 =>
 bif (r12 != 0)then(some (([]:Bs),r12))
 else(Ap (X:=Bs×Int) (Y:=Bs) (U2 fun t5a t18a k1 x2 =>
 bif decide (t18a<(p0.length:Int))then(chk (decide (0<=t18a)) <|
 chk (decide (t18a<(p0.length:Int))) <|
 Ac (EY N (p0.getD t18a.toNat (0,([]:Bs),([]:List Yq0))) false) fun r24 =>
 bif (r24.2 != 0)then(some (([]:Bs),r24.2))
 else(chk (decide (t5a.length+r24.1.length<=140737488355328)) <|
 k1 (t5a++r24.1,i64.wrap (t18a+1))))
 else(x2 t5a))
 N (([]:Bs),0) (fun t5b =>
 some (t5b,0)))
def N9 (N:Nat) (p0:Bool) (p1:Yq4):Option (Bs×Bool) :=
 Ac (EG N p1.2.2.2.2.2.2.2.2.2.2.1) fun r9 =>
 Ac (BF N p0 r9.1 r9.2) fun r12 =>
 Ac (Bo N r12.2 ([r12.1]:List Bs)) fun r14 =>
 some (r14.1,r14.2)
def KR (N:Nat) (p0:Int) (p1:List Yq1):Option (Bs×Int) :=
 bif ((p1.length:Int)==0)then(some (([]:Bs),0))
 else(Ap (X:=Int×List Bs) (Y:=(List Bs)) (U2 fun t17a l1000000a k1 x2 =>
 bif decide (t17a<(p1.length:Int))then(chk (decide (0<=t17a)) <|
 chk (decide (t17a<(p1.length:Int))) <|
 Ac (EY N (p1.getD t17a.toNat (0,([]:Bs),([]:List Yq0))) true) fun r23 =>
 bif (r23.2 != 0)then(some (([]:Bs),r23.2))
 else(Ac (Ci N 48 ([r23.1]:List Bs)) fun r32 =>
 bif (r32.2 != 0)then(some (([]:Bs),r32.2))
 else(chk (decide ((l1000000a.length+1)*17<=140737488355328)) <|
 k1 (i64.wrap (t17a+1),l1000000a++([r32.1]:List Bs)))))
 else(x2 l1000000a))
 N (0,([]:List Bs)) (fun l1004096b =>
 Ac (Ci N p0 l1004096b) fun r45 =>
 some (r45.1,r45.2)))
def YH (N:Nat) (p0:Yq6):Option (Bs×Int) :=
 Ac (Tc N p0) fun r10 =>
 bif (r10 != 0)then(some (([]:Bs),r10))
 else(Ac (KR N 160 p0.1) fun r17 =>
 bif (r17.2 != 0)then(some (([]:Bs),2))
 else(Ac (KR N 161 p0.2) fun r25 =>
 bif (r25.2 != 0)then(some (([]:Bs),2))
 else(Ac (Ci N 48 ([r17.1,r25.1]:List Bs)) fun r34 =>
 bif (r34.2 != 0)then(some (([]:Bs),2))
 else(some (r34.1,0)))))
def Hq (N:Nat) (p0:Bool) (p1:Yq4):Option (Bs×Bool) :=
 Ac (YH N (p1.2.2.2.2.2.2.2.2.2.2.2.2.1,p1.2.2.2.2.2.2.2.2.2.2.2.2.2.1)) fun r8 =>
 Ac (BF N p0 r8.1 r8.2) fun r11 =>
 some (r11.1,r11.2)
def Ko (N:Nat) (p0:Bool) (p1:Yq4):Option (Bs×Bool) :=
 Ac (AV N p0 4 ([p1.2.2.2.2.2.2.2.2.2.2.2.2.2.2.1]:List Bs)) fun r9 =>
 some (r9.1,r9.2)
def IB (N:Nat) (p0:Bool) (p1:Yq4):Option (Bs×Bool) :=
 Ac (AV N p0 128 ([p1.2.2.2.2.2.2.2.2.2.2.2.2.2.2.2.1]:List Bs)) fun r10 =>
 Ac (Bo N r10.2 ([r10.1]:List Bs)) fun r12 =>
 some (r12.1,r12.2)
def Dj (N:Nat) (p0:List Yq2):Option (Bs×Int) :=
 bif ((p0.length:Int)==0)then(some (([]:Bs),7))
 else(Ac (BN N p0) fun r16 =>
 bif (r16 != 0)then(some (([]:Bs),r16))
 else(Ap (X:=Int×Bool×List Bs) (Y:=(Bool×List Bs)) (U3 fun t24a b38144_0a l1000000a k1 x2 =>
 bif decide (t24a<(p0.length:Int))then(chk (decide (0<=t24a)) <|
 chk (decide (t24a<(p0.length:Int))) <|
 Dz (α :=List Yq1×Int×Bool×List Yq0×Bool×List Bs×List Bs) (fun j3 =>
 let x31:Int:=(((p0.getD t24a.toNat (([]:List Yq1),0,false,([]:List Yq0))).1).length:Int)
 bif decide (x31>0)then(Ac (EG N ((p0.getD t24a.toNat (([]:List Yq1),0,false,([]:List Yq0))).1)) fun r39 =>
 Ac (BF N b38144_0a r39.1 r39.2) fun r42 =>
 Ac (AV N r42.2 160 ([r42.1]:List Bs)) fun r44 =>
 Ac (AV N r44.2 160 ([r44.1]:List Bs)) fun r46 =>
 j3 ((p0.getD t24a.toNat (([]:List Yq1),0,false,([]:List Yq0))).1,(p0.getD t24a.toNat (([]:List Yq1),0,false,([]:List Yq0))).2.1,(p0.getD t24a.toNat (([]:List Yq1),0,false,([]:List Yq0))).2.2.1,(p0.getD t24a.toNat (([]:List Yq1),0,false,([]:List Yq0))).2.2.2,r46.2,([r46.1,([]:Bs),([]:Bs)]:List Bs),l1000000a))
 else(j3 ((p0.getD t24a.toNat (([]:List Yq1),0,false,([]:List Yq0))).1,(p0.getD t24a.toNat (([]:List Yq1),0,false,([]:List Yq0))).2.1,(p0.getD t24a.toNat (([]:List Yq1),0,false,([]:List Yq0))).2.2.1,(p0.getD t24a.toNat (([]:List Yq1),0,false,([]:List Yq0))).2.2.2,b38144_0a,([([]:Bs),([]:Bs),([]:Bs)]:List Bs),l1000000a)))
 (U7 fun b34816_0b b34816_1b b34816_2b b34816_3b b38144_0b l39936b l1004096b =>
 Dz (α :=List Yq1×Int×Bool×List Yq0×Bool×List Bs×List Bs) (fun j4 =>
 bif (b34816_1b != 0)then(Ac (GI N b34816_1b) fun r56 =>
 Ac (BF N b38144_0b r56.1 r56.2) fun r59 =>
 Ac (AV N r59.2 129 ([r59.1]:List Bs)) fun r61 =>
 chk (decide (1<(l39936b.length:Int))) <|
 chk (decide (1<l39936b.length)) <|
 j4 (b34816_0b,b34816_1b,b34816_2b,b34816_3b,r61.2,l39936b.set 1 r61.1,l1004096b))
 else(j4 (b34816_0b,b34816_1b,b34816_2b,b34816_3b,b38144_0b,l39936b,l1004096b)))
 (U7 fun b34816_0c b34816_1c b34816_2c b34816_3c b38144_0c l39936c l1008192c =>
 Dz (α :=Bool×List Bs×List Bs) (fun j5 =>
 bif b34816_2c then(Ac (EY N (4,([]:Bs),b34816_3c) false) fun r72 =>
 Ac (BF N b38144_0c r72.1 r72.2) fun r75 =>
 Ac (AV N r75.2 162 ([r75.1]:List Bs)) fun r77 =>
 chk (decide (2<(l39936c.length:Int))) <|
 chk (decide (2<l39936c.length)) <|
 j5 (r77.2,l39936c.set 2 r77.1,l1008192c))
 else(j5 (b38144_0c,l39936c,l1008192c)))
 (U3 fun b38144_0d l39936d l1012288d =>
 Ac (Bo N b38144_0d l39936d) fun r82 =>
 chk (decide ((l1012288d.length+1)*17<=140737488355328)) <|
 k1 (i64.wrap (t24a+1),r82.2,l1012288d++([r82.1]:List Bs))))))
 else(x2 (b38144_0a,l1000000a)))
 N (0,false,([]:List Bs)) (U2 fun b38144_0e l1016384e =>
 Ac (Bo N b38144_0e l1016384e) fun r88 =>
 Ac (Ik N r88.2) fun r90 =>
 bif r90.1 then(some (([]:Bs),2))
 else(some (r88.1,0)))))
def Mc (N:Nat) (p0:Bool) (p1:Yq4):Option (Bs×Bool) :=
 Ac (Dj N p1.2.2.2.2.2.2.2.2.2.2.2.2.2.2.2.2.1) fun r8 =>
 Ac (BF N p0 r8.1 r8.2) fun r11 =>
 some (r11.1,r11.2)
def J4 (N:Nat) (p0:Bool) (p1:Yq4):Option (Bs×Bool) :=
 Ac (Dj N p1.2.2.2.2.2.2.2.2.2.2.2.2.2.2.2.2.2.1) fun r8 =>
 Ac (BF N p0 r8.1 r8.2) fun r11 =>
 some (r11.1,r11.2)
def Agd (N n:Nat) (a:Bool×Yq4):Option (Bs×Bool) :=
  bif Nat.beq n 112 then N8 N a.1 a.2 else
  bif Nat.beq n 115 then NC N a.1 a.2 else
  bif Nat.beq n 118 then J7 N a.1 a.2 else
  bif Nat.beq n 121 then J6 N a.1 a.2 else
  bif Nat.beq n 124 then J5 N a.1 a.2 else
  bif Nat.beq n 127 then LZ N a.1 a.2 else
  bif Nat.beq n 130 then JZ N a.1 a.2 else
  bif Nat.beq n 133 then N9 N a.1 a.2 else
  bif Nat.beq n 136 then Hq N a.1 a.2 else
  bif Nat.beq n 139 then Ko N a.1 a.2 else
  bif Nat.beq n 142 then IB N a.1 a.2 else
  bif Nat.beq n 145 then Mc N a.1 a.2 else
  bif Nat.beq n 148 then J4 N a.1 a.2 else
  none
def Qo (N:Nat) (p0:Yq4):Option (Yq3×Int) :=
 Ac (bD N p0) fun r10 =>
 bif (r10 != 0)then(some (([]:List (Bs×Bool×Bs)),r10))
 else(Ac (OH N) fun r16 =>
 Ap (X:=Int×Bool×Bool×Int×Int×List Bs×List Bs×(List (Bs×Bs))×Int×Int×Int×List Yq1×Bool×List Yq1×List Yq1×Bs×Bs×List Yq2×List Yq2×(List (Bs×Bool×Bs))×Bool×List (Bs×Bool×Bs)) (Y:=(Bool×Bool×Int×Int×List Bs×List Bs×(List (Bs×Bs))×Int×Int×Int×List Yq1×Bool×List Yq1×List Yq1×Bs×Bs×List Yq2×List Yq2×(List (Bs×Bool×Bs))×Bool×List (Bs×Bool×Bs))) (U22 fun t18a b33024_0a b33024_1a b33024_2a b33024_3a b33024_4a b33024_5a b33024_6a b33024_7a b33024_8a b33024_9a b33024_10a b33024_11a b33024_12a b33024_13a b33024_14a b33024_15a b33024_16a b33024_17a b33024_18a b36608_0a l1000000a k1 x2 =>
 bif decide (t18a<(r16.length:Int))then(chk (decide (0<=t18a)) <|
 chk (decide (t18a<(r16.length:Int))) <|
 Ac (Aaq N ((r16.getD t18a.toNat (([]:Bs),0,0,0,0)).2.2.1) (b33024_0a,b33024_1a,b33024_2a,b33024_3a,b33024_4a,b33024_5a,b33024_6a,b33024_7a,b33024_8a,b33024_9a,b33024_10a,b33024_11a,b33024_12a,b33024_13a,b33024_14a,b33024_15a,b33024_16a,b33024_17a,b33024_18a)) fun r25 =>
 bif r25 then(chk ((!(((r16.getD t18a.toNat (([]:Bs),0,0,0,0)).2.1)==1))||(!(!(((r16.getD t18a.toNat (([]:Bs),0,0,0,0)).2.1)==1)))) <|
 chk ((!(((r16.getD t18a.toNat (([]:Bs),0,0,0,0)).2.1)==1))||(!(!(((r16.getD t18a.toNat (([]:Bs),0,0,0,0)).2.1)==1)))) <|
 let x35:Bool:=(((r16.getD t18a.toNat (([]:Bs),0,0,0,0)).1)==([50,46,53,46,50,57,46,51,51]:Bs))
 chk (bif (((r16.getD t18a.toNat (([]:Bs),0,0,0,0)).2.1)==1)then true else !(((r16.getD t18a.toNat (([]:Bs),0,0,0,0)).2.1)==1)) <|
 chk (bif (((r16.getD t18a.toNat (([]:Bs),0,0,0,0)).2.1)==1)then true else true) <|
 let x36:Bool:=bif (((r16.getD t18a.toNat (([]:Bs),0,0,0,0)).2.1)==1)then true else x35
 Ac (Agd N ((r16.getD t18a.toNat (([]:Bs),0,0,0,0)).2.2.2.1) (b36608_0a,(b33024_0a,b33024_1a,b33024_2a,b33024_3a,b33024_4a,b33024_5a,b33024_6a,b33024_7a,b33024_8a,b33024_9a,b33024_10a,b33024_11a,b33024_12a,b33024_13a,b33024_14a,b33024_15a,b33024_16a,b33024_17a,b33024_18a))) fun r41 =>
 chk (decide ((l1000000a.length+1)*41<=140737488355328)) <|
 let y44032:List (Bs×Bool×Bs):=l1000000a++([((r16.getD t18a.toNat (([]:Bs),0,0,0,0)).1,x36,r41.1)]:List (Bs×Bool×Bs))
 k1 (i64.wrap (t18a+1),b33024_0a,b33024_1a,b33024_2a,b33024_3a,b33024_4a,b33024_5a,b33024_6a,b33024_7a,b33024_8a,b33024_9a,b33024_10a,b33024_11a,b33024_12a,b33024_13a,b33024_14a,b33024_15a,b33024_16a,b33024_17a,b33024_18a,r41.2,y44032))
 else(k1 (i64.wrap (t18a+1),b33024_0a,b33024_1a,b33024_2a,b33024_3a,b33024_4a,b33024_5a,b33024_6a,b33024_7a,b33024_8a,b33024_9a,b33024_10a,b33024_11a,b33024_12a,b33024_13a,b33024_14a,b33024_15a,b33024_16a,b33024_17a,b33024_18a,b36608_0a,l1000000a)))
 else(x2 (b33024_0a,b33024_1a,b33024_2a,b33024_3a,b33024_4a,b33024_5a,b33024_6a,b33024_7a,b33024_8a,b33024_9a,b33024_10a,b33024_11a,b33024_12a,b33024_13a,b33024_14a,b33024_15a,b33024_16a,b33024_17a,b33024_18a,b36608_0a,l1000000a)))
 N (0,p0.1,p0.2.1,p0.2.2.1,p0.2.2.2.1,p0.2.2.2.2.1,p0.2.2.2.2.2.1,p0.2.2.2.2.2.2.1,p0.2.2.2.2.2.2.2.1,p0.2.2.2.2.2.2.2.2.1,p0.2.2.2.2.2.2.2.2.2.1,p0.2.2.2.2.2.2.2.2.2.2.1,p0.2.2.2.2.2.2.2.2.2.2.2.1,p0.2.2.2.2.2.2.2.2.2.2.2.2.1,p0.2.2.2.2.2.2.2.2.2.2.2.2.2.1,p0.2.2.2.2.2.2.2.2.2.2.2.2.2.2.1,p0.2.2.2.2.2.2.2.2.2.2.2.2.2.2.2.1,p0.2.2.2.2.2.2.2.2.2.2.2.2.2.2.2.2.1,p0.2.2.2.2.2.2.2.2.2.2.2.2.2.2.2.2.2.1,p0.2.2.2.2.2.2.2.2.2.2.2.2.2.2.2.2.2.2,false,([]:List (Bs×Bool×Bs))) (U21 fun b33024_0b b33024_1b b33024_2b b33024_3b b33024_4b b33024_5b b33024_6b b33024_7b b33024_8b b33024_9b b33024_10b b33024_11b b33024_12b b33024_13b b33024_14b b33024_15b b33024_16b b33024_17b b33024_18b b36608_0b l1004096b =>
 Ac (Ik N b36608_0b) fun r47 =>
 bif r47.1 then(some (([]:List (Bs×Bool×Bs)),2))
 else(chk (decide ((l1004096b.length+b33024_18b.length)*41<=140737488355328)) <|
 some (l1004096b++b33024_18b,0))))
def U0 (N:Nat):Option Yq4 :=
 some (false,false,(-1),0,([]:List Bs),([]:List Bs),([]:List (Bs×Bs)),(-1),(-1),(-1),([]:List Yq1),false,([]:List Yq1),([]:List Yq1),([]:Bs),([]:Bs),([]:List Yq2),([]:List Yq2),([]:List (Bs×Bool×Bs)))
def MP (N:Nat):Option Bool :=
 Ac (U0 N) fun r6 =>
 Ac (Qo N (true,true,0,r6.2.2.2.1,r6.2.2.2.2.1,r6.2.2.2.2.2.1,r6.2.2.2.2.2.2.1,r6.2.2.2.2.2.2.2.1,r6.2.2.2.2.2.2.2.2.1,r6.2.2.2.2.2.2.2.2.2.1,r6.2.2.2.2.2.2.2.2.2.2.1,r6.2.2.2.2.2.2.2.2.2.2.2.1,r6.2.2.2.2.2.2.2.2.2.2.2.2.1,r6.2.2.2.2.2.2.2.2.2.2.2.2.2.1,r6.2.2.2.2.2.2.2.2.2.2.2.2.2.2.1,r6.2.2.2.2.2.2.2.2.2.2.2.2.2.2.2.1,r6.2.2.2.2.2.2.2.2.2.2.2.2.2.2.2.2.1,r6.2.2.2.2.2.2.2.2.2.2.2.2.2.2.2.2.2.1,r6.2.2.2.2.2.2.2.2.2.2.2.2.2.2.2.2.2.2)) fun r12 =>
 Ac (U0 N) fun r16 =>
 Ac (Qo N r16) fun r17 =>
 Ah (r12.2==0) fun b1 =>
 chk (b1||(!b1)) <|
 chk (b1||(!b1)) <|
 chk (bif b1 then b1 else true) <|
 chk (bif b1 then true else true) <|
 Ah (bif b1 then((r12.1.length:Int)==1)else false) fun b2 =>
 Ah (b2) fun b3 =>
 chk (b3||(!b3)) <|
 chk ((decide (0<(r12.1.length:Int)))||(!b3)) <|
 chk (b3||(!b3)) <|
 chk (b3||(!b3)) <|
 chk (b3||(!b3)) <|
 let x32:Bool:=((((r12.1.getD 0 (([]:Bs),false,([]:Bs))).1)==([50,46,53,46,50,57,46,49,57]:Bs))&&((((r12.1.getD 0 (([]:Bs),false,([]:Bs))).2.1)==true)&&((((r12.1.getD 0 (([]:Bs),false,([]:Bs))).2.2)==([48,6,1,1,255,2,1,0]:Bs))&&true)))
 chk (bif b3 then b3 else true) <|
 chk (bif b3 then true else true) <|
 Ah (bif b3 then x32 else false) fun b4 =>
 Ah (b4) fun b5 =>
 chk (b5||(!b5)) <|
 chk (bif b5 then b5 else true) <|
 chk (bif b5 then true else true) <|
 Ah (bif b5 then(r17.2==0)else false) fun b6 =>
 Ah (b6) fun b7 =>
 chk (b7||(!b7)) <|
 chk (b7||(!b7)) <|
 chk (bif b7 then b7 else true) <|
 chk (bif b7 then true else true) <|
 Ah (bif b7 then((r17.1.length:Int)==0)else false) fun b8 =>
 some b8
def aB (N:Nat):Option Yq4 :=
 some (false,false,(-1),0,([]:List Bs),([]:List Bs),([]:List (Bs×Bs)),(-1),(-1),(-1),([]:List Yq1),false,([]:List Yq1),([]:List Yq1),([]:Bs),([]:Bs),([]:List Yq2),([]:List Yq2),([]:List (Bs×Bool×Bs)))
def Ak (N:Nat) (p0:List Int×Int) (p1:Int):Option (Int×List Int×Int) :=
 bif decide (p0.2>=(p0.1.length:Int))then(some (0,p0))
 else(chk (decide (0<=i64.wrap ((i64.wrap (p0.2+1)) - 1))) <|
 chk (decide (i64.wrap ((i64.wrap (p0.2+1)) - 1)<(p0.1.length:Int))) <|
 let x32:Int:=(p0.1.getD ((i64.wrap ((i64.wrap (p0.2+1)) - 1)).toNat) 0)
 chk (p1 != 0) <|
 chk (p1 != 0) <|
 some ((i64.wrap ((x32.tmod p1)+p1)).tmod p1,(p0.1,i64.wrap (p0.2+1))))
def Ls (N:Nat) (p0:List Int×Int):Option ((Bs×Int×Bs)×List Int×Int) :=
 Ac (Ak N p0 12) fun r17 =>
 chk (decide (0<=r17.1)) <|
 chk (decide (r17.1<12)) <|
 chk (decide (r17.1.toNat<12)) <|
 some ((([(([50,46,53,46,52,46,51]:Bs),12,([65,110,110]:Bs)),(([50,46,53,46,52,46,51]:Bs),19,([32,97,110,110]:Bs)),(([50,46,53,46,52,46,51]:Bs),12,([103,114,195,182,195,159,101]:Bs)),(([50,46,53,46,52,46,54]:Bs),19,([85,83]:Bs)),(([50,46,53,46,52,46,49,48]:Bs),19,([69,120,97,109,112,108,101,32,32,67,111,114,112]:Bs)),(([50,46,53,46,52,46,49,48]:Bs),12,([101,120,97,109,112,108,101,32,99,111,114,112]:Bs)),(([50,46,53,46,52,46,49,49]:Bs),22,([97,44,98,43,99,61,100,92,101]:Bs)),(([48,46,57,46,50,51,52,50,46,49,57,50,48,48,51,48,48,46,49,48,48,46,49,46,50,53]:Bs),22,([111,114,103]:Bs)),(([49,46,50,46,56,52,48,46,49,49,51,53,52,57,46,49,46,57,46,49]:Bs),22,([97,110,110,64,101,120,97,109,112,108,101,46,111,114,103]:Bs)),(([49,46,50,46,56,52,48,46,49,49,51,53,52,57,46,49,46,57,46,49]:Bs),22,([110,111,32,97,100,100,114,101,115,115]:Bs)),(([50,46,53,46,52,46,57,57]:Bs),19,([120]:Bs)),(([50,46,53,46,52,46,55]:Bs),12,([76]:Bs))]:List (Bs×Int×Bs)).getD r17.1.toNat (([]:Bs),0,([]:Bs))),r17.2)
def RG (N:Nat) (p0:List Int×Int):Option (List Yq0×List Int×Int) :=
 Ac (Ak N p0 4) fun r10 =>
 Ap (X:=Int×List Int×Int×List Yq0) (Y:=(List Int×Int×List Yq0)) (U4 fun t4a b0_0a b0_1a l1000000a k1 x2 =>
 bif decide (t4a>0)then(Ac (Ak N (b0_0a,b0_1a) 5) fun r16 =>
 Ap (X:=Int×List Int×Int×(List (Bs×Int×Bs))×List Yq0) (Y:=(List Int×Int×(List (Bs×Int×Bs))×List Yq0)) (U5 fun t6b b0_0b b0_1b l1004096b l1004112b k3 x4 =>
 bif decide (t6b>0)then(Ac (Ls N (b0_0b,b0_1b)) fun r24 =>
 chk ((!((l1004096b.length:Int)==0))||(!(!((l1004096b.length:Int)==0)))) <|
 chk ((decide (0<(l1004096b.length:Int)))||(!(!((l1004096b.length:Int)==0)))) <|
 chk ((!((l1004096b.length:Int)==0))||(!(!((l1004096b.length:Int)==0)))) <|
 chk ((decide (0<l1004096b.length))||(!(!((l1004096b.length:Int)==0)))) <|
 chk ((!((l1004096b.length:Int)==0))||(!(!((l1004096b.length:Int)==0)))) <|
 chk ((decide (0<l1004096b.length))||(!(!((l1004096b.length:Int)==0)))) <|
 chk ((!((l1004096b.length:Int)==0))||(!(!((l1004096b.length:Int)==0)))) <|
 chk ((!((l1004096b.length:Int)==0))||(!(!((l1004096b.length:Int)==0)))) <|
 chk ((!((l1004096b.length:Int)==0))||(!(!((l1004096b.length:Int)==0)))) <|
 chk (bif ((l1004096b.length:Int)==0)then true else !((l1004096b.length:Int)==0)) <|
 chk (bif ((l1004096b.length:Int)==0)then true else true) <|
 let x36:Bool:=bif ((l1004096b.length:Int)==0)then true else !(((l1004096b.getD 0 (([]:Bs),0,([]:Bs))).1)==r24.1.1)
 bif x36 then(chk (decide ((l1004096b.length+1)*41<=140737488355328)) <|
 k3 (i64.wrap (t6b - 1),r24.2.1,r24.2.2,l1004096b++([r24.1]:List (Bs×Int×Bs)),l1004112b))
 else(k3 (i64.wrap (t6b - 1),r24.2.1,r24.2.2,l1004096b,l1004112b)))
 else(x4 (b0_0b,b0_1b,l1004096b,l1004112b)))
 N (i64.wrap ((1:Int)+(i64.wrap (r16.1.tdiv 4))),r16.2.1,r16.2.2,([]:List (Bs×Int×Bs)),l1000000a) (U4 fun b0_0c b0_1c l1008192c l1008208c =>
 chk (decide ((l1008208c.length+1)*25<=140737488355328)) <|
 k1 (i64.wrap (t4a - 1),b0_0c,b0_1c,l1008208c++([l1008192c]:List Yq0))))
 else(x2 (b0_0a,b0_1a,l1000000a)))
 N (r10.1,r10.2.1,r10.2.2,([]:List Yq0)) (U3 fun b0_0d b0_1d l1012288d =>
 some (l1012288d,(b0_0d,b0_1d)))
def FZ (N:Nat) (p0:List Int×Int):Option (Yq1×List Int×Int) :=
 Ac (Ak N p0 4) fun r4 =>
 bif (r4.1==0)then(Ac (Ak N r4.2 6) fun r9 =>
 chk (decide (0<=r9.1)) <|
 chk (decide (r9.1<6)) <|
 chk (decide (r9.1.toNat<6)) <|
 let x11:Bs:=(([([97,110,110,64,101,120,97,109,112,108,101,46,111,114,103]:Bs),([65,78,78,64,101,120,97,109,112,108,101,46,111,114,103]:Bs),([97,110,110,64,69,120,97,109,112,108,101,46,79,82,71]:Bs),([98,46,99,64,109,97,105,108,46,101,120,97,109,112,108,101,46,111,114,103]:Bs),([120,64,111,114,103]:Bs),([97,39,98,64,97,46,98]:Bs)]:List Bs).getD r9.1.toNat ([]:Bs))
 some ((1,x11,([]:List Yq0)),r9.2))
 else(bif (r4.1==1)then(Ac (Ak N r4.2 7) fun r17 =>
 chk (decide (0<=r17.1)) <|
 chk (decide (r17.1<7)) <|
 chk (decide (r17.1.toNat<7)) <|
 let x19:Bs:=(([([101,120,97,109,112,108,101,46,111,114,103]:Bs),([119,119,119,46,101,120,97,109,112,108,101,46,111,114,103]:Bs),([87,87,87,46,69,120,97,109,112,108,101,46,111,114,103]:Bs),([42,46,101,120,97,109,112,108,101,46,111,114,103]:Bs),([97,46,98]:Bs),([111,114,103]:Bs),([109,121,101,120,97,109,112,108,101,46,111,114,103]:Bs)]:List Bs).getD r17.1.toNat ([]:Bs))
 some ((2,x19,([]:List Yq0)),r17.2))
 else(bif (r4.1==2)then(Ac (Ak N r4.2 4) fun r25 =>
 chk (decide (0<=r25.1)) <|
 chk (decide (r25.1<4)) <|
 chk (decide (r25.1.toNat<4)) <|
 let x27:Bs:=(([([10,0,0,1]:Bs),([10,1,2,3]:Bs),([192,168,1,7]:Bs),([32,1,13,184,0,0,0,0,0,0,0,0,0,0,0,1]:Bs)]:List Bs).getD r25.1.toNat ([]:Bs))
 some ((7,x27,([]:List Yq0)),r25.2))
 else(Ac (RG N r4.2) fun r30 =>
 some ((4,([]:Bs),r30.1),r30.2))))
def ES (N:Nat) (p0:Int):Option Bs :=
 chk (decide (0<=p0.tmod 9)) <|
 chk (decide (p0.tmod 9<9)) <|
 chk (decide ((p0.tmod 9).toNat<9)) <|
 let x7:Bs:=(([([49,46,50,46,51,46,49]:Bs),([49,46,50,46,51,46,50]:Bs),([49,46,50,46,51,46,51]:Bs),([49,46,50,46,51,46,52]:Bs),([49,46,50,46,51,46,53]:Bs),([50,46,57,57,57,46,49]:Bs),([50,46,57,57,57,46,50]:Bs),([49,46,50,46,51]:Bs),([50,46,53,46,50,57,46,51,50,46,48]:Bs)]:List Bs).getD ((p0.tmod 9).toNat) ([]:Bs))
 some x7
def RI (N:Nat) (p0:List Int×Int) (p1:Bool):Option (List Bs×List Int×Int) :=
 Ac (Ak N p0 3) fun r12 =>
 Ap (X:=Int×List Int×Int×List Bs) (Y:=(List Int×Int×List Bs)) (U4 fun t6a b0_0a b0_1a l1000000a k1 x2 =>
 bif decide (t6a>0)then(Ac (Ak N (b0_0a,b0_1a) 9) fun r19 =>
 Ac (ES N r19.1) fun r20 =>
 Dz (α :=Bs×List Int×Int×List Bs) (fun j3 =>
 bif p1 then(Ac (Ak N r19.2 5) fun r24 =>
 chk (decide (0<=r24.1)) <|
 chk (decide (r24.1<5)) <|
 chk (decide (r24.1.toNat<5)) <|
 let x26:Bs:=(([([49,46,51,46,54,46,49,46,53,46,53,46,55,46,51,46,49]:Bs),([49,46,51,46,54,46,49,46,53,46,53,46,55,46,51,46,50]:Bs),([49,46,51,46,54,46,49,46,53,46,53,46,55,46,51,46,51]:Bs),([49,46,51,46,54,46,49,46,53,46,53,46,55,46,51,46,52]:Bs),([50,46,53,46,50,57,46,51,55,46,48]:Bs)]:List Bs).getD r24.1.toNat ([]:Bs))
 j3 (x26,r24.2.1,r24.2.2,l1000000a))
 else(j3 (r20,r19.2.1,r19.2.2,l1000000a)))
 (U4 fun t7b b0_0b b0_1b l1004096b =>
 Ap (X:=Bool×Int×List Int×Int×List Bs) (Y:=(Bool×List Int×Int×List Bs)) (U5 fun t8c t29c b0_0c b0_1c l1008192c k4 x5 =>
 bif decide (t29c<(l1004096b.length:Int))then(chk (decide (0<=t29c)) <|
 chk (decide (t29c<(l1008192c.length:Int))) <|
 chk (decide (t29c.toNat<l1008192c.length)) <|
 chk (!t8c|| !!t8c) <|
 chk (!t8c|| !!t8c) <|
 chk (bif t8c then true else !t8c) <|
 chk (bif t8c then true else true) <|
 k4 (bif t8c then true else(t7b==(l1008192c.getD t29c.toNat ([]:Bs))),i64.wrap (t29c+1),b0_0c,b0_1c,l1008192c))
 else(x5 (t8c,b0_0c,b0_1c,l1008192c)))
 N (false,0,b0_0b,b0_1b,l1004096b) (U4 fun t8d b0_0d b0_1d l1012288d =>
 bif !t8d then(chk (decide ((l1012288d.length+1)*17<=140737488355328)) <|
 k1 (i64.wrap (t6a - 1),b0_0d,b0_1d,l1012288d++([t7b]:List Bs)))
 else(k1 (i64.wrap (t6a - 1),b0_0d,b0_1d,l1012288d)))))
 else(x2 (b0_0a,b0_1a,l1000000a)))
 N (i64.wrap ((1:Int)+r12.1),r12.2.1,r12.2.2,([]:List Bs)) (U3 fun b0_0e b0_1e l1016384e =>
 some (l1016384e,(b0_0e,b0_1e)))
def Nr (N:Nat) (p0:List Int×Int):Option ((List (Bs×Bs))×List Int×Int) :=
 Ac (Ak N p0 3) fun r10 =>
 Ap (X:=Int×List Int×Int×List (Bs×Bs)) (Y:=(List Int×Int×List (Bs×Bs))) (U4 fun t4a b0_0a b0_1a l1000000a k1 x2 =>
 bif decide (t4a>0)then(Ac (Ak N (b0_0a,b0_1a) 9) fun r17 =>
 Ac (ES N r17.1) fun r18 =>
 Ac (Ak N r17.2 9) fun r20 =>
 Ac (ES N r20.1) fun r21 =>
 Ap (X:=Bool×Int×List Int×Int×Bs×Bs×List (Bs×Bs)) (Y:=(Bool×List Int×Int×Bs×Bs×List (Bs×Bs))) (U7 fun t6b t25b b0_0b b0_1b b34048_0b b34048_1b l1004096b k3 x4 =>
 bif decide (t25b<(l1000000a.length:Int))then(chk (decide (0<=t25b)) <|
 chk (decide (t25b<(l1004096b.length:Int))) <|
 chk (decide (t25b.toNat<l1004096b.length)) <|
 chk (!t6b|| !!t6b) <|
 chk (!t6b|| !!t6b) <|
 let x33:Bool:=((b34048_0b==((l1004096b.getD t25b.toNat (([]:Bs),([]:Bs))).1))&&((b34048_1b==((l1004096b.getD t25b.toNat (([]:Bs),([]:Bs))).2))&&true))
 chk (bif t6b then true else !t6b) <|
 chk (bif t6b then true else true) <|
 k3 (bif t6b then true else x33,i64.wrap (t25b+1),b0_0b,b0_1b,b34048_0b,b34048_1b,l1004096b))
 else(x4 (t6b,b0_0b,b0_1b,b34048_0b,b34048_1b,l1004096b)))
 N (false,0,r20.2.1,r20.2.2,r18,r21,l1000000a) (U6 fun t6c b0_0c b0_1c b34048_0c b34048_1c l1008192c =>
 bif !t6c then(chk (decide ((l1008192c.length+1)*33<=140737488355328)) <|
 k1 (i64.wrap (t4a - 1),b0_0c,b0_1c,l1008192c++([(b34048_0c,b34048_1c)]:List (Bs×Bs))))
 else(k1 (i64.wrap (t4a - 1),b0_0c,b0_1c,l1008192c))))
 else(x2 (b0_0a,b0_1a,l1000000a)))
 N (i64.wrap ((1:Int)+r10.1),r10.2.1,r10.2.2,([]:List (Bs×Bs))) (U3 fun b0_0d b0_1d l1012288d =>
 some (l1012288d,(b0_0d,b0_1d)))
def KA (N:Nat) (p0:List Int×Int):Option (Yq1×List Int×Int) :=
 Ac (Ak N p0 4) fun r4 =>
 bif (r4.1==0)then(Ac (Ak N r4.2 7) fun r9 =>
 chk (decide (0<=r9.1)) <|
 chk (decide (r9.1<7)) <|
 chk (decide (r9.1.toNat<7)) <|
 let x11:Bs:=(([([97,110,110,64,101,120,97,109,112,108,101,46,111,114,103]:Bs),([101,120,97,109,112,108,101,46,111,114,103]:Bs),([46,101,120,97,109,112,108,101,46,111,114,103]:Bs),([69,88,65,77,80,76,69,46,111,114,103]:Bs),([46,111,114,103]:Bs),([111,114,103]:Bs),([109,97,105,108,46,101,120,97,109,112,108,101,46,111,114,103]:Bs)]:List Bs).getD r9.1.toNat ([]:Bs))
 some ((1,x11,([]:List Yq0)),r9.2))
 else(bif (r4.1==1)then(Ac (Ak N r4.2 7) fun r17 =>
 chk (decide (0<=r17.1)) <|
 chk (decide (r17.1<7)) <|
 chk (decide (r17.1.toNat<7)) <|
 let x19:Bs:=(([([101,120,97,109,112,108,101,46,111,114,103]:Bs),([119,119,119,46,101,120,97,109,112,108,101,46,111,114,103]:Bs),([]:Bs),([69,120,97,109,112,108,101,46,79,82,71]:Bs),([111,114,103]:Bs),([98]:Bs),([97,46,98]:Bs)]:List Bs).getD r17.1.toNat ([]:Bs))
 some ((2,x19,([]:List Yq0)),r17.2))
 else(bif (r4.1==2)then(Ac (Ak N r4.2 5) fun r25 =>
 chk (decide (0<=r25.1)) <|
 chk (decide (r25.1<5)) <|
 chk (decide (r25.1.toNat<5)) <|
 let x27:Bs:=(([([10,0,0,0,255,0,0,0]:Bs),([10,1,0,0,255,255,0,0]:Bs),([0,0,0,0,0,0,0,0]:Bs),([10,1,2,3,255,255,255,255]:Bs),([32,1,0,0,0,0,0,0,0,0,0,0,0,0,0,0,255,255,0,0,0,0,0,0,0,0,0,0,0,0,0,0]:Bs)]:List Bs).getD r25.1.toNat ([]:Bs))
 some ((7,x27,([]:List Yq0)),r25.2))
 else(Ac (RG N r4.2) fun r30 =>
 some ((4,([]:Bs),r30.1),r30.2))))
def Nq (N:Nat) (p0:List Int×Int):Option (Yq6×List Int×Int) :=
 Ac (Ak N p0 4) fun r8 =>
 Ap (X:=Int×List Int×Int×List Yq1) (Y:=(List Int×Int×List Yq1)) (U4 fun t4a b0_0a b0_1a l1000000a k1 x2 =>
 bif decide (t4a>0)then(Ac (KA N (b0_0a,b0_1a)) fun r16 =>
 chk (decide ((l1000000a.length+1)*49<=140737488355328)) <|
 k1 (i64.wrap (t4a - 1),r16.2.1,r16.2.2,l1000000a++([r16.1]:List Yq1)))
 else(x2 (b0_0a,b0_1a,l1000000a)))
 N (r8.1,r8.2.1,r8.2.2,([]:List Yq1)) (U3 fun b0_0b b0_1b l1004096b =>
 Ac (Ak N (b0_0b,b0_1b) 3) fun r21 =>
 Ap (X:=Int×List Int×Int×List Yq1×List Yq1) (Y:=(List Int×Int×List Yq1×List Yq1)) (U5 fun t5c b0_0c b0_1c l1004096c l1008192c k3 x4 =>
 bif decide (t5c>0)then(Ac (KA N (b0_0c,b0_1c)) fun r29 =>
 chk (decide ((l1008192c.length+1)*49<=140737488355328)) <|
 k3 (i64.wrap (t5c - 1),r29.2.1,r29.2.2,l1004096c,l1008192c++([r29.1]:List Yq1)))
 else(x4 (b0_0c,b0_1c,l1004096c,l1008192c)))
 N (r21.1,r21.2.1,r21.2.2,l1004096b,([]:List Yq1)) (U4 fun b0_0d b0_1d l1004096d l1012288d =>
 chk (((l1004096d.length:Int)==0)||(!((l1004096d.length:Int)==0))) <|
 chk (((l1004096d.length:Int)==0)||(!((l1004096d.length:Int)==0))) <|
 chk (((l1004096d.length:Int)==0)||(!((l1004096d.length:Int)==0))) <|
 chk (bif ((l1004096d.length:Int)==0)then((l1004096d.length:Int)==0)else true) <|
 chk (bif ((l1004096d.length:Int)==0)then true else true) <|
 let x42:Bool:=bif ((l1004096d.length:Int)==0)then((l1012288d.length:Int)==0)else false
 bif x42 then(Ac (KA N (b0_0d,b0_1d)) fun r46 =>
 chk (decide ((l1012288d.length+1)*49<=140737488355328)) <|
 some ((l1004096d,l1012288d++([r46.1]:List Yq1)),r46.2))
 else(some ((l1004096d,l1012288d),(b0_0d,b0_1d)))))
abbrev Xv:Type:=Bs
def Io (N:Nat) (F:Int->Option Xv) (p0:Int):Option Xv :=
 bif decide (p0<10)then(chk (List.all ([IntKind.u8.wrap (i64.wrap ((48:Int)+p0))]:List Int) isByte) <|
 let x9:Bs:=List.map byteOf ([IntKind.u8.wrap (i64.wrap ((48:Int)+p0))]:List Int)
 some x9)
 else(Ac (F (i64.wrap (p0.tdiv 10))) fun r12 =>
 chk (List.all ([IntKind.u8.wrap (i64.wrap ((48:Int)+(p0.tmod 10)))]:List Int) isByte) <|
 let x18:Bs:=List.map byteOf ([IntKind.u8.wrap (i64.wrap ((48:Int)+(p0.tmod 10)))]:List Int)
 chk (decide (r12.length+x18.length<=140737488355328)) <|
 some (r12++x18))
def FT (N:Nat):Nat->Int->Option Xv
  | 0=>fun p0=>none
  | n+1=>fun p0=>Io N (FT N n) p0
def Il (N:Nat) (p0:Int):Option (List Yq0) :=
 Ac (FT N N (i64.wrap ((p0.tmod 8).tdiv 2))) fun r8 =>
 chk (decide (3+r8.length<=140737488355328)) <|
 Dz (α :=Bs) (fun j1 =>
 bif decide ((p0.tmod 16)>=8)then(Ac (FT N N (i64.wrap ((p0.tmod 8).tdiv 2))) fun r16 =>
 chk (decide (5+r16.length<=140737488355328)) <|
 j1 (([32,99,97,32,32]:Bs)++r16))
 else(j1 (([67,65,32]:Bs)++r8)))
 (fun t3a =>
 bif ((p0.tmod 2)==1)then(some ([([(([50,46,53,46,52,46,49,48]:Bs),19,t3a)]:List (Bs×Int×Bs)),([(([50,46,53,46,52,46,49,49]:Bs),12,([85,110,105,116]:Bs))]:List (Bs×Int×Bs))]:List Yq0))
 else(some ([([(([50,46,53,46,52,46,49,48]:Bs),19,t3a)]:List (Bs×Int×Bs))]:List Yq0)))
def MR (N:Nat) (p0:List Int×Int):Option (List Yq2×List Int×Int) :=
 Ac (Ak N p0 3) fun r7 =>
 Ap (X:=Int×List Int×Int×List Yq2) (Y:=(List Int×Int×List Yq2)) (U4 fun t4a b0_0a b0_1a l1000000a k1 x2 =>
 bif decide (t4a>0)then(Ac (FZ N (b0_0a,b0_1a)) fun r14 =>
 Ac (Ak N r14.2 6) fun r18 =>
 chk (decide (0<=r18.1)) <|
 chk (decide (r18.1<6)) <|
 chk (decide (r18.1.toNat<6)) <|
 Dz (α :=List Int×Int×Int×Bool×List Yq0×List Yq1×List Yq2) (fun j3 =>
 Ac (Ak N r18.2 3) fun r23 =>
 bif (r23.1==2)then(Ac (Ak N r23.2 16) fun r26 =>
 Ac (Il N r26.1) fun r27 =>
 j3 (r26.2.1,r26.2.2,(([0,0,510,2,64,384]:List Int).getD r18.1.toNat 0),true,r27,([r14.1]:List Yq1),l1000000a))
 else(j3 (r23.2.1,r23.2.2,(([0,0,510,2,64,384]:List Int).getD r18.1.toNat 0),false,([]:List Yq0),([r14.1]:List Yq1),l1000000a)))
 (U7 fun b0_0b b0_1b b34048_1b b34048_2b b34048_3b l36608b l1004096b =>
 chk (decide ((l1004096b.length+1)*65<=140737488355328)) <|
 k1 (i64.wrap (t4a - 1),b0_0b,b0_1b,l1004096b++([(l36608b,b34048_1b,b34048_2b,b34048_3b)]:List Yq2))))
 else(x2 (b0_0a,b0_1a,l1000000a)))
 N (i64.wrap ((1:Int)+r7.1),r7.2.1,r7.2.2,([]:List Yq2)) (U3 fun b0_0c b0_1c l1008192c =>
 some (l1008192c,(b0_0c,b0_1c)))
def Ws (N:Nat) (p0:List Int×Int):Option (Yq4×List Int×Int) :=
 Ac (aB N) fun r5 =>
 Ac (Ak N p0 6) fun r7 =>
 Ap (X:=Int×List Int×Int×Bool×Bool×Int×Int×Int×Int×Int×Bool×List Yq1×List Yq1×Bs×Bs×List Yq2×List Bs×List Bs×(List (Bs×Bs))×List Yq1×List Yq2×List (Bs×Bool×Bs)) (Y:=(List Int×Int×Bool×Bool×Int×Int×Int×Int×Int×Bool×List Yq1×List Yq1×Bs×Bs×List Yq2×(List (Bs×Bool×Bs))×List Yq2×List Yq1×(List (Bs×Bs))×List Bs×List Bs)) (U22 fun t4a b0_0a b0_1a b33536_0a b33536_1a b33536_2a b33536_3a b33536_7a b33536_8a b33536_9a b33536_11a b33536_12a b33536_13a b33536_14a b33536_15a b33536_17a l1000000a l1000016a l1000032a l1000048a l1000064a l1000080a k1 x2 =>
 bif decide (t4a>0)then(Ac (Ak N (b0_0a,b0_1a) 14) fun r13 =>
 Dz (α :=Bool×List Int×Int×Bool×Bool×Int×Int×Int×Int×Int×Bool×List Yq1×List Yq1×Bs×Bs×List Yq2×(List (Bs×Bool×Bs))×List Yq2×List Yq1×(List (Bs×Bs))×List Bs×List Bs) (fun j3 =>
 bif (r13.1==0)then(j3 ((r13.1==0),r13.2.1,r13.2.2,b33536_0a,b33536_1a,b33536_2a,b33536_3a,b33536_7a,b33536_8a,b33536_9a,b33536_11a,b33536_12a,b33536_13a,b33536_14a,b33536_15a,b33536_17a,l1000080a,l1000064a,l1000048a,l1000032a,l1000016a,l1000000a))
 else(j3 ((r13.1==1),r13.2.1,r13.2.2,b33536_0a,b33536_1a,b33536_2a,b33536_3a,b33536_7a,b33536_8a,b33536_9a,b33536_11a,b33536_12a,b33536_13a,b33536_14a,b33536_15a,b33536_17a,l1000080a,l1000064a,l1000048a,l1000032a,l1000016a,l1000000a)))
 (U22 fun t27b b0_0b b0_1b b33536_0b b33536_1b b33536_2b b33536_3b b33536_7b b33536_8b b33536_9b b33536_11b b33536_12b b33536_13b b33536_14b b33536_15b b33536_17b l1004096b l1004112b l1004128b l1004144b l1004160b l1004176b =>
 bif t27b then(Ac (Ak N (b0_0b,b0_1b) 5) fun r31 =>
 k1 (i64.wrap (t4a - 1),r31.2.1,r31.2.2,true,true,i64.wrap (r31.1 - 1),b33536_3b,b33536_7b,b33536_8b,b33536_9b,b33536_11b,b33536_12b,b33536_13b,b33536_14b,b33536_15b,b33536_17b,l1004176b,l1004160b,l1004144b,l1004128b,l1004112b,l1004096b))
 else(bif (r13.1==2)then(k1 (i64.wrap (t4a - 1),b0_0b,b0_1b,true,false,(-1),b33536_3b,b33536_7b,b33536_8b,b33536_9b,b33536_11b,b33536_12b,b33536_13b,b33536_14b,b33536_15b,b33536_17b,l1004176b,l1004160b,l1004144b,l1004128b,l1004112b,l1004096b))
 else(bif (r13.1==3)then(Ac (Ak N (b0_0b,b0_1b) 511) fun r44 =>
 k1 (i64.wrap (t4a - 1),r44.2.1,r44.2.2,b33536_0b,b33536_1b,b33536_2b,i64.wrap ((1:Int)+r44.1),b33536_7b,b33536_8b,b33536_9b,b33536_11b,b33536_12b,b33536_13b,b33536_14b,b33536_15b,b33536_17b,l1004176b,l1004160b,l1004144b,l1004128b,l1004112b,l1004096b))
 else(bif (r13.1==4)then(Ac (RI N (b0_0b,b0_1b) true) fun r50 =>
 k1 (i64.wrap (t4a - 1),r50.2.1,r50.2.2,b33536_0b,b33536_1b,b33536_2b,b33536_3b,b33536_7b,b33536_8b,b33536_9b,b33536_11b,b33536_12b,b33536_13b,b33536_14b,b33536_15b,b33536_17b,r50.1,l1004160b,l1004144b,l1004128b,l1004112b,l1004096b))
 else(bif (r13.1==5)then(Ac (RI N (b0_0b,b0_1b) false) fun r55 =>
 k1 (i64.wrap (t4a - 1),r55.2.1,r55.2.2,b33536_0b,b33536_1b,b33536_2b,b33536_3b,b33536_7b,b33536_8b,b33536_9b,b33536_11b,b33536_12b,b33536_13b,b33536_14b,b33536_15b,b33536_17b,l1004176b,r55.1,l1004144b,l1004128b,l1004112b,l1004096b))
 else(bif (r13.1==6)then(Ac (Nr N (b0_0b,b0_1b)) fun r60 =>
 k1 (i64.wrap (t4a - 1),r60.2.1,r60.2.2,b33536_0b,b33536_1b,b33536_2b,b33536_3b,b33536_7b,b33536_8b,b33536_9b,b33536_11b,b33536_12b,b33536_13b,b33536_14b,b33536_15b,b33536_17b,l1004176b,l1004160b,r60.1,l1004128b,l1004112b,l1004096b))
 else(bif (r13.1==7)then(Ac (Ak N (b0_0b,b0_1b) 5) fun r65 =>
 Ac (Ak N r65.2 5) fun r68 =>
 k1 (i64.wrap (t4a - 1),r68.2.1,r68.2.2,b33536_0b,b33536_1b,b33536_2b,b33536_3b,i64.wrap (r65.1 - 1),i64.wrap (r68.1 - 1),b33536_9b,b33536_11b,b33536_12b,b33536_13b,b33536_14b,b33536_15b,b33536_17b,l1004176b,l1004160b,l1004144b,l1004128b,l1004112b,l1004096b))
 else(bif (r13.1==8)then(Ac (Ak N (b0_0b,b0_1b) 65) fun r75 =>
 k1 (i64.wrap (t4a - 1),r75.2.1,r75.2.2,b33536_0b,b33536_1b,b33536_2b,b33536_3b,b33536_7b,b33536_8b,r75.1,b33536_11b,b33536_12b,b33536_13b,b33536_14b,b33536_15b,b33536_17b,l1004176b,l1004160b,l1004144b,l1004128b,l1004112b,l1004096b))
 else(bif (r13.1==9)then(Ac (FZ N (b0_0b,b0_1b)) fun r80 =>
 Ac (FZ N r80.2) fun r82 =>
 Ac (Ak N r82.2 2) fun r85 =>
 chk (decide (0<=i64.wrap ((1:Int)+r85.1))) <|
 chk (decide (i64.wrap ((1:Int)+r85.1)<=2)) <|
 let y55040:List Yq1:=Ar ([r80.1,r82.1]:List Yq1) 0 ((i64.wrap ((1:Int)+r85.1)).toNat)
 k1 (i64.wrap (t4a - 1),r85.2.1,r85.2.2,b33536_0b,b33536_1b,b33536_2b,b33536_3b,b33536_7b,b33536_8b,b33536_9b,b33536_11b,b33536_12b,b33536_13b,b33536_14b,b33536_15b,b33536_17b,l1004176b,l1004160b,l1004144b,y55040,l1004112b,l1004096b))
 else(bif (r13.1==10)then(Ac (Nq N (b0_0b,b0_1b)) fun r92 =>
 k1 (i64.wrap (t4a - 1),r92.2.1,r92.2.2,b33536_0b,b33536_1b,b33536_2b,b33536_3b,b33536_7b,b33536_8b,b33536_9b,true,r92.1.1,r92.1.2,b33536_14b,b33536_15b,b33536_17b,l1004176b,l1004160b,l1004144b,l1004128b,l1004112b,l1004096b))
 else(bif (r13.1==11)then(Ac (Ak N (b0_0b,b0_1b) 3) fun r99 =>
 chk (decide (0<=r99.1)) <|
 chk (decide (r99.1<3)) <|
 chk (decide (r99.1.toNat<3)) <|
 let x101:Bs:=(([([]:Bs),([48,49,50,51,52,53,54,55,56,57,97,98,99,100,101,102]:Bs),([120]:Bs)]:List Bs).getD r99.1.toNat ([]:Bs))
 Ac (Ak N r99.2 2) fun r104 =>
 chk (decide (0<=r104.1)) <|
 chk (decide (r104.1<2)) <|
 chk (decide (r104.1.toNat<2)) <|
 let x106:Bs:=(([([]:Bs),([102,101,100,99,98,97,57,56,55,54,53,52,51,50,49,48]:Bs)]:List Bs).getD r104.1.toNat ([]:Bs))
 k1 (i64.wrap (t4a - 1),r104.2.1,r104.2.2,b33536_0b,b33536_1b,b33536_2b,b33536_3b,b33536_7b,b33536_8b,b33536_9b,b33536_11b,b33536_12b,b33536_13b,x101,x106,b33536_17b,l1004176b,l1004160b,l1004144b,l1004128b,l1004112b,l1004096b))
 else(bif (r13.1==12)then(Ac (MR N (b0_0b,b0_1b)) fun r112 =>
 k1 (i64.wrap (t4a - 1),r112.2.1,r112.2.2,b33536_0b,b33536_1b,b33536_2b,b33536_3b,b33536_7b,b33536_8b,b33536_9b,b33536_11b,b33536_12b,b33536_13b,b33536_14b,b33536_15b,b33536_17b,l1004176b,l1004160b,l1004144b,l1004128b,r112.1,l1004096b))
 else(Ac (MR N (b0_0b,b0_1b)) fun r15 =>
 Ac (Ak N r15.2 2) fun r18 =>
 Ac (Ak N r18.2 3) fun r24 =>
 chk (decide (0<=r24.1)) <|
 chk (decide (r24.1<=2)) <|
 let y39168:List (Bs×Bool×Bs):=Ar ([(([49,46,50,46,51,46,52,46,53]:Bs),(r18.1==1),([5,0]:Bs)),(([49,46,50,46,51,46,52,46,54]:Bs),false,([48,3,2,1,7]:Bs))]:List (Bs×Bool×Bs)) 0 r24.1.toNat
 k1 (i64.wrap (t4a - 1),r24.2.1,r24.2.2,b33536_0b,b33536_1b,b33536_2b,b33536_3b,b33536_7b,b33536_8b,b33536_9b,b33536_11b,b33536_12b,b33536_13b,b33536_14b,b33536_15b,r15.1,l1004176b,l1004160b,l1004144b,l1004128b,l1004112b,y39168)))))))))))))))
 else(x2 (b0_0a,b0_1a,b33536_0a,b33536_1a,b33536_2a,b33536_3a,b33536_7a,b33536_8a,b33536_9a,b33536_11a,b33536_12a,b33536_13a,b33536_14a,b33536_15a,b33536_17a,l1000080a,l1000064a,l1000048a,l1000032a,l1000016a,l1000000a)))
 N (r7.1,r7.2.1,r7.2.2,r5.1,r5.2.1,r5.2.2.1,r5.2.2.2.1,r5.2.2.2.2.2.2.2.1,r5.2.2.2.2.2.2.2.2.1,r5.2.2.2.2.2.2.2.2.2.1,r5.2.2.2.2.2.2.2.2.2.2.2.1,r5.2.2.2.2.2.2.2.2.2.2.2.2.1,r5.2.2.2.2.2.2.2.2.2.2.2.2.2.1,r5.2.2.2.2.2.2.2.2.2.2.2.2.2.2.1,r5.2.2.2.2.2.2.2.2.2.2.2.2.2.2.2.1,r5.2.2.2.2.2.2.2.2.2.2.2.2.2.2.2.2.2.1,r5.2.2.2.2.1,r5.2.2.2.2.2.1,r5.2.2.2.2.2.2.1,r5.2.2.2.2.2.2.2.2.2.2.1,r5.2.2.2.2.2.2.2.2.2.2.2.2.2.2.2.2.1,r5.2.2.2.2.2.2.2.2.2.2.2.2.2.2.2.2.2.2) (U21 fun b0_0c b0_1c b33536_0c b33536_1c b33536_2c b33536_3c b33536_7c b33536_8c b33536_9c b33536_11c b33536_12c b33536_13c b33536_14c b33536_15c b33536_17c l1008192c l1008208c l1008224c l1008240c l1008256c l1008272c =>
 some ((b33536_0c,b33536_1c,b33536_2c,b33536_3c,l1008272c,l1008256c,l1008240c,b33536_7c,b33536_8c,b33536_9c,l1008224c,b33536_11c,b33536_12c,b33536_13c,b33536_14c,b33536_15c,l1008208c,b33536_17c,l1008192c),(b0_0c,b0_1c)))
def Nk (N:Nat) (p0:List Int×Int) (p1:Yq4):Option (Yq4×List Int×Int) :=
 Ac (Ws N p0) fun r8 =>
 Ac (Ak N r8.2 18) fun r10 =>
 bif (r10.1==0)then(some ((r8.1.1,!r8.1.2.1,r8.1.2.2.1,r8.1.2.2.2.1,r8.1.2.2.2.2.1,r8.1.2.2.2.2.2.1,r8.1.2.2.2.2.2.2.1,r8.1.2.2.2.2.2.2.2.1,r8.1.2.2.2.2.2.2.2.2.1,r8.1.2.2.2.2.2.2.2.2.2.1,r8.1.2.2.2.2.2.2.2.2.2.2.1,r8.1.2.2.2.2.2.2.2.2.2.2.2.1,r8.1.2.2.2.2.2.2.2.2.2.2.2.2.1,r8.1.2.2.2.2.2.2.2.2.2.2.2.2.2.1,r8.1.2.2.2.2.2.2.2.2.2.2.2.2.2.2.1,r8.1.2.2.2.2.2.2.2.2.2.2.2.2.2.2.2.1,r8.1.2.2.2.2.2.2.2.2.2.2.2.2.2.2.2.2.1,r8.1.2.2.2.2.2.2.2.2.2.2.2.2.2.2.2.2.2.1,r8.1.2.2.2.2.2.2.2.2.2.2.2.2.2.2.2.2.2.2),r10.2))
 else(bif (r10.1==1)then(Ac (Ak N r10.2 70) fun r20 =>
 some ((r8.1.1,r8.1.2.1,i64.wrap (r20.1 - 3),r8.1.2.2.2.1,r8.1.2.2.2.2.1,r8.1.2.2.2.2.2.1,r8.1.2.2.2.2.2.2.1,r8.1.2.2.2.2.2.2.2.1,r8.1.2.2.2.2.2.2.2.2.1,r8.1.2.2.2.2.2.2.2.2.2.1,r8.1.2.2.2.2.2.2.2.2.2.2.1,r8.1.2.2.2.2.2.2.2.2.2.2.2.1,r8.1.2.2.2.2.2.2.2.2.2.2.2.2.1,r8.1.2.2.2.2.2.2.2.2.2.2.2.2.2.1,r8.1.2.2.2.2.2.2.2.2.2.2.2.2.2.2.1,r8.1.2.2.2.2.2.2.2.2.2.2.2.2.2.2.2.1,r8.1.2.2.2.2.2.2.2.2.2.2.2.2.2.2.2.2.1,r8.1.2.2.2.2.2.2.2.2.2.2.2.2.2.2.2.2.2.1,r8.1.2.2.2.2.2.2.2.2.2.2.2.2.2.2.2.2.2.2),r20.2))
 else(bif (r10.1==2)then(Ac (Ak N r10.2 600) fun r26 =>
 some ((r8.1.1,r8.1.2.1,r8.1.2.2.1,i64.wrap (r26.1 - 5),r8.1.2.2.2.2.1,r8.1.2.2.2.2.2.1,r8.1.2.2.2.2.2.2.1,r8.1.2.2.2.2.2.2.2.1,r8.1.2.2.2.2.2.2.2.2.1,r8.1.2.2.2.2.2.2.2.2.2.1,r8.1.2.2.2.2.2.2.2.2.2.2.1,r8.1.2.2.2.2.2.2.2.2.2.2.2.1,r8.1.2.2.2.2.2.2.2.2.2.2.2.2.1,r8.1.2.2.2.2.2.2.2.2.2.2.2.2.2.1,r8.1.2.2.2.2.2.2.2.2.2.2.2.2.2.2.1,r8.1.2.2.2.2.2.2.2.2.2.2.2.2.2.2.2.1,r8.1.2.2.2.2.2.2.2.2.2.2.2.2.2.2.2.2.1,r8.1.2.2.2.2.2.2.2.2.2.2.2.2.2.2.2.2.2.1,r8.1.2.2.2.2.2.2.2.2.2.2.2.2.2.2.2.2.2.2),r26.2))
 else(bif (r10.1==3)then(chk (decide ((r8.1.2.2.2.2.1.length+1)*17<=140737488355328)) <|
 let y41472:List Bs:=r8.1.2.2.2.2.1++([([49,46,51,46,54,46,49,46,53,46,53,46,55,46,51,46,49]:Bs)]:List Bs)
 some ((r8.1.1,r8.1.2.1,r8.1.2.2.1,r8.1.2.2.2.1,y41472,r8.1.2.2.2.2.2.1,r8.1.2.2.2.2.2.2.1,r8.1.2.2.2.2.2.2.2.1,r8.1.2.2.2.2.2.2.2.2.1,r8.1.2.2.2.2.2.2.2.2.2.1,r8.1.2.2.2.2.2.2.2.2.2.2.1,r8.1.2.2.2.2.2.2.2.2.2.2.2.1,r8.1.2.2.2.2.2.2.2.2.2.2.2.2.1,r8.1.2.2.2.2.2.2.2.2.2.2.2.2.2.1,r8.1.2.2.2.2.2.2.2.2.2.2.2.2.2.2.1,r8.1.2.2.2.2.2.2.2.2.2.2.2.2.2.2.2.1,r8.1.2.2.2.2.2.2.2.2.2.2.2.2.2.2.2.2.1,r8.1.2.2.2.2.2.2.2.2.2.2.2.2.2.2.2.2.2.1,r8.1.2.2.2.2.2.2.2.2.2.2.2.2.2.2.2.2.2.2),r10.2))
 else(bif (r10.1==4)then(Ac (Ak N r10.2 9) fun r41 =>
 Ac (ES N r41.1) fun r42 =>
 chk (decide ((r8.1.2.2.2.2.2.1.length+1)*17<=140737488355328)) <|
 some ((r8.1.1,r8.1.2.1,r8.1.2.2.1,r8.1.2.2.2.1,r8.1.2.2.2.2.1,r8.1.2.2.2.2.2.1++([r42]:List Bs),r8.1.2.2.2.2.2.2.1,r8.1.2.2.2.2.2.2.2.1,r8.1.2.2.2.2.2.2.2.2.1,r8.1.2.2.2.2.2.2.2.2.2.1,r8.1.2.2.2.2.2.2.2.2.2.2.1,r8.1.2.2.2.2.2.2.2.2.2.2.2.1,r8.1.2.2.2.2.2.2.2.2.2.2.2.2.1,r8.1.2.2.2.2.2.2.2.2.2.2.2.2.2.1,r8.1.2.2.2.2.2.2.2.2.2.2.2.2.2.2.1,r8.1.2.2.2.2.2.2.2.2.2.2.2.2.2.2.2.1,r8.1.2.2.2.2.2.2.2.2.2.2.2.2.2.2.2.2.1,r8.1.2.2.2.2.2.2.2.2.2.2.2.2.2.2.2.2.2.1,r8.1.2.2.2.2.2.2.2.2.2.2.2.2.2.2.2.2.2.2),r41.2))
 else(bif (r10.1==5)then(Ac (ES N 0) fun r50 =>
 Ac (Ak N r10.2 9) fun r52 =>
 Ac (ES N r52.1) fun r53 =>
 chk (decide ((r8.1.2.2.2.2.2.2.1.length+1)*33<=140737488355328)) <|
 some ((r8.1.1,r8.1.2.1,r8.1.2.2.1,r8.1.2.2.2.1,r8.1.2.2.2.2.1,r8.1.2.2.2.2.2.1,r8.1.2.2.2.2.2.2.1++([(r50,r53)]:List (Bs×Bs)),r8.1.2.2.2.2.2.2.2.1,r8.1.2.2.2.2.2.2.2.2.1,r8.1.2.2.2.2.2.2.2.2.2.1,r8.1.2.2.2.2.2.2.2.2.2.2.1,r8.1.2.2.2.2.2.2.2.2.2.2.2.1,r8.1.2.2.2.2.2.2.2.2.2.2.2.2.1,r8.1.2.2.2.2.2.2.2.2.2.2.2.2.2.1,r8.1.2.2.2.2.2.2.2.2.2.2.2.2.2.2.1,r8.1.2.2.2.2.2.2.2.2.2.2.2.2.2.2.2.1,r8.1.2.2.2.2.2.2.2.2.2.2.2.2.2.2.2.2.1,r8.1.2.2.2.2.2.2.2.2.2.2.2.2.2.2.2.2.2.1,r8.1.2.2.2.2.2.2.2.2.2.2.2.2.2.2.2.2.2.2),r52.2))
 else(bif (r10.1==6)then(Ac (Ak N r10.2 70) fun r61 =>
 some ((r8.1.1,r8.1.2.1,r8.1.2.2.1,r8.1.2.2.2.1,r8.1.2.2.2.2.1,r8.1.2.2.2.2.2.1,r8.1.2.2.2.2.2.2.1,i64.wrap (r61.1 - 3),r8.1.2.2.2.2.2.2.2.2.1,r8.1.2.2.2.2.2.2.2.2.2.1,r8.1.2.2.2.2.2.2.2.2.2.2.1,r8.1.2.2.2.2.2.2.2.2.2.2.2.1,r8.1.2.2.2.2.2.2.2.2.2.2.2.2.1,r8.1.2.2.2.2.2.2.2.2.2.2.2.2.2.1,r8.1.2.2.2.2.2.2.2.2.2.2.2.2.2.2.1,r8.1.2.2.2.2.2.2.2.2.2.2.2.2.2.2.2.1,r8.1.2.2.2.2.2.2.2.2.2.2.2.2.2.2.2.2.1,r8.1.2.2.2.2.2.2.2.2.2.2.2.2.2.2.2.2.2.1,r8.1.2.2.2.2.2.2.2.2.2.2.2.2.2.2.2.2.2.2),r61.2))
 else(bif (r10.1==7)then(Ac (Ak N r10.2 70) fun r67 =>
 Ac (Ak N r67.2 70) fun r70 =>
 some ((r8.1.1,r8.1.2.1,r8.1.2.2.1,r8.1.2.2.2.1,r8.1.2.2.2.2.1,r8.1.2.2.2.2.2.1,r8.1.2.2.2.2.2.2.1,r8.1.2.2.2.2.2.2.2.1,i64.wrap (r67.1 - 3),i64.wrap (r70.1 - 3),r8.1.2.2.2.2.2.2.2.2.2.2.1,r8.1.2.2.2.2.2.2.2.2.2.2.2.1,r8.1.2.2.2.2.2.2.2.2.2.2.2.2.1,r8.1.2.2.2.2.2.2.2.2.2.2.2.2.2.1,r8.1.2.2.2.2.2.2.2.2.2.2.2.2.2.2.1,r8.1.2.2.2.2.2.2.2.2.2.2.2.2.2.2.2.1,r8.1.2.2.2.2.2.2.2.2.2.2.2.2.2.2.2.2.1,r8.1.2.2.2.2.2.2.2.2.2.2.2.2.2.2.2.2.2.1,r8.1.2.2.2.2.2.2.2.2.2.2.2.2.2.2.2.2.2.2),r70.2))
 else(bif (r10.1==8)then(some ((r8.1.1,r8.1.2.1,r8.1.2.2.1,r8.1.2.2.2.1,r8.1.2.2.2.2.1,r8.1.2.2.2.2.2.1,r8.1.2.2.2.2.2.2.1,r8.1.2.2.2.2.2.2.2.1,r8.1.2.2.2.2.2.2.2.2.1,r8.1.2.2.2.2.2.2.2.2.2.1,r8.1.2.2.2.2.2.2.2.2.2.2.1,!r8.1.2.2.2.2.2.2.2.2.2.2.2.1,r8.1.2.2.2.2.2.2.2.2.2.2.2.2.1,r8.1.2.2.2.2.2.2.2.2.2.2.2.2.2.1,r8.1.2.2.2.2.2.2.2.2.2.2.2.2.2.2.1,r8.1.2.2.2.2.2.2.2.2.2.2.2.2.2.2.2.1,r8.1.2.2.2.2.2.2.2.2.2.2.2.2.2.2.2.2.1,r8.1.2.2.2.2.2.2.2.2.2.2.2.2.2.2.2.2.2.1,r8.1.2.2.2.2.2.2.2.2.2.2.2.2.2.2.2.2.2.2),r10.2))
 else(bif (r10.1==9)then(Ac (KA N r10.2) fun r85 =>
 chk (decide ((r8.1.2.2.2.2.2.2.2.2.2.2.1.length+1)*49<=140737488355328)) <|
 some ((r8.1.1,r8.1.2.1,r8.1.2.2.1,r8.1.2.2.2.1,r8.1.2.2.2.2.1,r8.1.2.2.2.2.2.1,r8.1.2.2.2.2.2.2.1,r8.1.2.2.2.2.2.2.2.1,r8.1.2.2.2.2.2.2.2.2.1,r8.1.2.2.2.2.2.2.2.2.2.1,r8.1.2.2.2.2.2.2.2.2.2.2.1++([r85.1]:List Yq1),r8.1.2.2.2.2.2.2.2.2.2.2.2.1,r8.1.2.2.2.2.2.2.2.2.2.2.2.2.1,r8.1.2.2.2.2.2.2.2.2.2.2.2.2.2.1,r8.1.2.2.2.2.2.2.2.2.2.2.2.2.2.2.1,r8.1.2.2.2.2.2.2.2.2.2.2.2.2.2.2.2.1,r8.1.2.2.2.2.2.2.2.2.2.2.2.2.2.2.2.2.1,r8.1.2.2.2.2.2.2.2.2.2.2.2.2.2.2.2.2.2.1,r8.1.2.2.2.2.2.2.2.2.2.2.2.2.2.2.2.2.2.2),r85.2))
 else(bif (r10.1==10)then(chk (decide ((r8.1.2.2.2.2.2.2.2.2.2.2.2.2.2.2.2.2.1.length+p1.2.2.2.2.2.2.2.2.2.2.2.2.2.2.2.2.1.length)*65<=140737488355328)) <|
 let y57088:List Yq2:=r8.1.2.2.2.2.2.2.2.2.2.2.2.2.2.2.2.2.1++p1.2.2.2.2.2.2.2.2.2.2.2.2.2.2.2.2.1
 some ((r8.1.1,r8.1.2.1,r8.1.2.2.1,r8.1.2.2.2.1,r8.1.2.2.2.2.1,r8.1.2.2.2.2.2.1,r8.1.2.2.2.2.2.2.1,r8.1.2.2.2.2.2.2.2.1,r8.1.2.2.2.2.2.2.2.2.1,r8.1.2.2.2.2.2.2.2.2.2.1,r8.1.2.2.2.2.2.2.2.2.2.2.1,r8.1.2.2.2.2.2.2.2.2.2.2.2.1,r8.1.2.2.2.2.2.2.2.2.2.2.2.2.1,r8.1.2.2.2.2.2.2.2.2.2.2.2.2.2.1,r8.1.2.2.2.2.2.2.2.2.2.2.2.2.2.2.1,r8.1.2.2.2.2.2.2.2.2.2.2.2.2.2.2.2.1,y57088,r8.1.2.2.2.2.2.2.2.2.2.2.2.2.2.2.2.2.2.1,r8.1.2.2.2.2.2.2.2.2.2.2.2.2.2.2.2.2.2.2),r10.2))
 else(bif (r10.1==11)then(chk (decide ((r8.1.2.2.2.2.2.2.2.2.2.2.2.2.2.2.2.2.2.2.length+p1.2.2.2.2.2.2.2.2.2.2.2.2.2.2.2.2.2.2.length)*41<=140737488355328)) <|
 let y59136:List (Bs×Bool×Bs):=r8.1.2.2.2.2.2.2.2.2.2.2.2.2.2.2.2.2.2.2++p1.2.2.2.2.2.2.2.2.2.2.2.2.2.2.2.2.2.2
 some ((r8.1.1,r8.1.2.1,r8.1.2.2.1,r8.1.2.2.2.1,r8.1.2.2.2.2.1,r8.1.2.2.2.2.2.1,r8.1.2.2.2.2.2.2.1,r8.1.2.2.2.2.2.2.2.1,r8.1.2.2.2.2.2.2.2.2.1,r8.1.2.2.2.2.2.2.2.2.2.1,r8.1.2.2.2.2.2.2.2.2.2.2.1,r8.1.2.2.2.2.2.2.2.2.2.2.2.1,r8.1.2.2.2.2.2.2.2.2.2.2.2.2.1,r8.1.2.2.2.2.2.2.2.2.2.2.2.2.2.1,r8.1.2.2.2.2.2.2.2.2.2.2.2.2.2.2.1,r8.1.2.2.2.2.2.2.2.2.2.2.2.2.2.2.2.1,r8.1.2.2.2.2.2.2.2.2.2.2.2.2.2.2.2.2.1,r8.1.2.2.2.2.2.2.2.2.2.2.2.2.2.2.2.2.2.1,y59136),r10.2))
 else(bif (r10.1==12)then(chk (decide ((r8.1.2.2.2.2.2.2.2.2.2.2.2.2.2.2.2.2.2.2.length+1)*41<=140737488355328)) <|
 let y61184:List (Bs×Bool×Bs):=r8.1.2.2.2.2.2.2.2.2.2.2.2.2.2.2.2.2.2.2++([(([50,46,53,46,50,57,46,49,57]:Bs),false,([5,0]:Bs))]:List (Bs×Bool×Bs))
 some ((r8.1.1,r8.1.2.1,r8.1.2.2.1,r8.1.2.2.2.1,r8.1.2.2.2.2.1,r8.1.2.2.2.2.2.1,r8.1.2.2.2.2.2.2.1,r8.1.2.2.2.2.2.2.2.1,r8.1.2.2.2.2.2.2.2.2.1,r8.1.2.2.2.2.2.2.2.2.2.1,r8.1.2.2.2.2.2.2.2.2.2.2.1,r8.1.2.2.2.2.2.2.2.2.2.2.2.1,r8.1.2.2.2.2.2.2.2.2.2.2.2.2.1,r8.1.2.2.2.2.2.2.2.2.2.2.2.2.2.1,r8.1.2.2.2.2.2.2.2.2.2.2.2.2.2.2.1,r8.1.2.2.2.2.2.2.2.2.2.2.2.2.2.2.2.1,r8.1.2.2.2.2.2.2.2.2.2.2.2.2.2.2.2.2.1,r8.1.2.2.2.2.2.2.2.2.2.2.2.2.2.2.2.2.2.1,y61184),r10.2))
 else(bif (r10.1==13)then(Ap (X:=Int×List Int×Int×Bool×Bool×Int×Int×Int×Int×Int×Bool×List Yq1×List Yq1×Bs×Bs×List Yq2×List Bs×List Bs×(List (Bs×Bs))×List Yq1×List Yq2×List (Bs×Bool×Bs)) (Y:=(List Int×Int×Bool×Bool×Int×Int×Int×Int×Int×Bool×List Yq1×List Yq1×Bs×Bs×List Yq2×List Bs×List Bs×(List (Bs×Bs))×List Yq1×List Yq2×List (Bs×Bool×Bs))) (U22 fun t6a b0_0a b0_1a b34048_0a b34048_1a b34048_2a b34048_3a b34048_7a b34048_8a b34048_9a b34048_11a b34048_12a b34048_13a b34048_14a b34048_15a b34048_17a l34821a l34822a l34823a l34827a l34833a l1000000a k1 x2 =>
 Ac (Ak N (b0_0a,b0_1a) 10) fun r117 =>
 bif decide (t6a<(i64.wrap ((16:Int)+r117.1)))then(chk (List.all ([IntKind.u8.wrap ((49:Int)+(IntKind.u8.wrap (t6a.tmod 9)))]:List Int) isByte) <|
 let x129:Bs:=List.map byteOf ([IntKind.u8.wrap ((49:Int)+(IntKind.u8.wrap (t6a.tmod 9)))]:List Int)
 chk (decide (6+x129.length<=140737488355328)) <|
 chk (decide ((([49,46,50,46,57,46]:Bs)++x129).length+1<=140737488355328)) <|
 let x135:Int:=IntKind.u8.wrap ((49:Int)+(IntKind.u8.wrap (i64.wrap (t6a.tdiv 9))))
 chk (List.all ([x135]:List Int) isByte) <|
 chk (decide (((([49,46,50,46,57,46]:Bs)++x129)++([46]:Bs)).length+(List.map byteOf ([x135]:List Int)).length<=140737488355328)) <|
 let x138:Bs:=((([49,46,50,46,57,46]:Bs)++x129)++([46]:Bs))++(List.map byteOf ([x135]:List Int))
 chk (decide ((l1000000a.length+1)*41<=140737488355328)) <|
 k1 (i64.wrap (t6a+1),r117.2.1,r117.2.2,b34048_0a,b34048_1a,b34048_2a,b34048_3a,b34048_7a,b34048_8a,b34048_9a,b34048_11a,b34048_12a,b34048_13a,b34048_14a,b34048_15a,b34048_17a,l34821a,l34822a,l34823a,l34827a,l34833a,l1000000a++([(x138,false,([5,0]:Bs))]:List (Bs×Bool×Bs))))
 else(x2 (r117.2.1,r117.2.2,b34048_0a,b34048_1a,b34048_2a,b34048_3a,b34048_7a,b34048_8a,b34048_9a,b34048_11a,b34048_12a,b34048_13a,b34048_14a,b34048_15a,b34048_17a,l34821a,l34822a,l34823a,l34827a,l34833a,l1000000a)))
 N (0,r10.2.1,r10.2.2,r8.1.1,r8.1.2.1,r8.1.2.2.1,r8.1.2.2.2.1,r8.1.2.2.2.2.2.2.2.1,r8.1.2.2.2.2.2.2.2.2.1,r8.1.2.2.2.2.2.2.2.2.2.1,r8.1.2.2.2.2.2.2.2.2.2.2.2.1,r8.1.2.2.2.2.2.2.2.2.2.2.2.2.1,r8.1.2.2.2.2.2.2.2.2.2.2.2.2.2.1,r8.1.2.2.2.2.2.2.2.2.2.2.2.2.2.2.1,r8.1.2.2.2.2.2.2.2.2.2.2.2.2.2.2.2.1,r8.1.2.2.2.2.2.2.2.2.2.2.2.2.2.2.2.2.2.1,r8.1.2.2.2.2.1,r8.1.2.2.2.2.2.1,r8.1.2.2.2.2.2.2.1,r8.1.2.2.2.2.2.2.2.2.2.2.1,r8.1.2.2.2.2.2.2.2.2.2.2.2.2.2.2.2.2.1,r8.1.2.2.2.2.2.2.2.2.2.2.2.2.2.2.2.2.2.2) (U21 fun b0_0b b0_1b b34048_0b b34048_1b b34048_2b b34048_3b b34048_7b b34048_8b b34048_9b b34048_11b b34048_12b b34048_13b b34048_14b b34048_15b b34048_17b l34821b l34822b l34823b l34827b l34833b l1004096b =>
 some ((b34048_0b,b34048_1b,b34048_2b,b34048_3b,l34821b,l34822b,l34823b,b34048_7b,b34048_8b,b34048_9b,l34827b,b34048_11b,b34048_12b,b34048_13b,b34048_14b,b34048_15b,l34833b,b34048_17b,l1004096b),(b0_0b,b0_1b))))
 else(bif (r10.1==14)then(Ac (Ak N r10.2 8) fun r146 =>
 chk (decide (i64.wrap ((28:Int)+r146.1)<=i64.wrap ((28:Int)+r146.1))) <|
 chk (decide (0<=i64.wrap ((28:Int)+r146.1))) <|
 chk (decide ((i64.wrap ((28:Int)+r146.1))*2<=140737488355328)) <|
 let y70656:List Int:=(List.replicate (i64.wrap ((28:Int)+r146.1)).toNat 0:List Int)
 chk (List.all y70656 isByte) <|
 some ((r8.1.1,r8.1.2.1,r8.1.2.2.1,r8.1.2.2.2.1,r8.1.2.2.2.2.1,r8.1.2.2.2.2.2.1,r8.1.2.2.2.2.2.2.1,r8.1.2.2.2.2.2.2.2.1,r8.1.2.2.2.2.2.2.2.2.1,r8.1.2.2.2.2.2.2.2.2.2.1,r8.1.2.2.2.2.2.2.2.2.2.2.1,r8.1.2.2.2.2.2.2.2.2.2.2.2.1,r8.1.2.2.2.2.2.2.2.2.2.2.2.2.1,r8.1.2.2.2.2.2.2.2.2.2.2.2.2.2.1,List.map byteOf y70656,r8.1.2.2.2.2.2.2.2.2.2.2.2.2.2.2.2.1,r8.1.2.2.2.2.2.2.2.2.2.2.2.2.2.2.2.2.1,r8.1.2.2.2.2.2.2.2.2.2.2.2.2.2.2.2.2.2.1,r8.1.2.2.2.2.2.2.2.2.2.2.2.2.2.2.2.2.2.2),r146.2))
 else(bif (r10.1==15)then(Ap (X:=List Int×Int×Bool×Bool×Int×Int×Int×Int×Int×Bool×List Yq1×List Yq1×Bs×Bs×List Yq2×List Bs×List Bs×(List (Bs×Bs))×List Yq2×(List (Bs×Bool×Bs))×List Yq1) (Y:=(List Int×Int×Bool×Bool×Int×Int×Int×Int×Int×Bool×List Yq1×List Yq1×Bs×Bs×List Yq2×List Bs×List Bs×(List (Bs×Bs))×List Yq2×(List (Bs×Bool×Bs))×List Yq1)) (U21 fun b0_0c b0_1c b34048_0c b34048_1c b34048_2c b34048_3c b34048_7c b34048_8c b34048_9c b34048_11c b34048_12c b34048_13c b34048_14c b34048_15c b34048_17c l34821c l34822c l34823c l34833c l34835c l1008192c k3 x4 =>
 Ac (Ak N (b0_0c,b0_1c) 6) fun r157 =>
 let x159:Bool:=decide ((l1008192c.length:Int)<(i64.wrap ((13:Int)+r157.1)))
 bif x159 then(Ac (FZ N r157.2) fun r163 =>
 chk (decide ((l1008192c.length+1)*49<=140737488355328)) <|
 k3 (r163.2.1,r163.2.2,b34048_0c,b34048_1c,b34048_2c,b34048_3c,b34048_7c,b34048_8c,b34048_9c,b34048_11c,b34048_12c,b34048_13c,b34048_14c,b34048_15c,b34048_17c,l34821c,l34822c,l34823c,l34833c,l34835c,l1008192c++([r163.1]:List Yq1)))
 else(x4 (r157.2.1,r157.2.2,b34048_0c,b34048_1c,b34048_2c,b34048_3c,b34048_7c,b34048_8c,b34048_9c,b34048_11c,b34048_12c,b34048_13c,b34048_14c,b34048_15c,b34048_17c,l34821c,l34822c,l34823c,l34833c,l34835c,l1008192c)))
 N (r10.2.1,r10.2.2,r8.1.1,r8.1.2.1,r8.1.2.2.1,r8.1.2.2.2.1,r8.1.2.2.2.2.2.2.2.1,r8.1.2.2.2.2.2.2.2.2.1,r8.1.2.2.2.2.2.2.2.2.2.1,r8.1.2.2.2.2.2.2.2.2.2.2.2.1,r8.1.2.2.2.2.2.2.2.2.2.2.2.2.1,r8.1.2.2.2.2.2.2.2.2.2.2.2.2.2.1,r8.1.2.2.2.2.2.2.2.2.2.2.2.2.2.2.1,r8.1.2.2.2.2.2.2.2.2.2.2.2.2.2.2.2.1,r8.1.2.2.2.2.2.2.2.2.2.2.2.2.2.2.2.2.2.1,r8.1.2.2.2.2.1,r8.1.2.2.2.2.2.1,r8.1.2.2.2.2.2.2.1,r8.1.2.2.2.2.2.2.2.2.2.2.2.2.2.2.2.2.1,r8.1.2.2.2.2.2.2.2.2.2.2.2.2.2.2.2.2.2.2,r8.1.2.2.2.2.2.2.2.2.2.2.1) (U21 fun b0_0d b0_1d b34048_0d b34048_1d b34048_2d b34048_3d b34048_7d b34048_8d b34048_9d b34048_11d b34048_12d b34048_13d b34048_14d b34048_15d b34048_17d l34821d l34822d l34823d l34833d l34835d l1012288d =>
 some ((b34048_0d,b34048_1d,b34048_2d,b34048_3d,l34821d,l34822d,l34823d,b34048_7d,b34048_8d,b34048_9d,l1012288d,b34048_11d,b34048_12d,b34048_13d,b34048_14d,b34048_15d,l34833d,b34048_17d,l34835d),(b0_0d,b0_1d))))
 else(some (r8.1,r10.2)))))))))))))))))
def tH (N:Nat) (p0:List Int):Option (List Int×Int) :=
 some (p0,0)
def L9 (N:Nat) (p0:Bs):Option (List Int×Bool) :=
 Ap (X:=Int×Int×List Int) (Y:=(List Int)) (U3 fun t5a t6a l1000000a k1 x2 =>
 bif decide (t6a<=(p0.length:Int))then(chk ((decide (t6a<(p0.length:Int)))||(!(decide (t6a<(p0.length:Int))))) <|
 chk ((decide (t6a<(p0.length:Int)))||(!(decide (t6a<(p0.length:Int))))) <|
 chk ((decide (0<=t6a))||(!(decide (t6a<(p0.length:Int))))) <|
 chk ((decide (t6a<(p0.length:Int)))||(!(decide (t6a<(p0.length:Int))))) <|
 chk ((decide (t6a<(p0.length:Int)))||(!(decide (t6a<(p0.length:Int))))) <|
 chk (bif decide (t6a<(p0.length:Int))then decide (t6a<(p0.length:Int))else true) <|
 chk (bif decide (t6a<(p0.length:Int))then true else true) <|
 let x25:Bool:=bif decide (t6a<(p0.length:Int))then(((p0.getD t6a.toNat 0).toNat:Int) != 46)else false
 bif x25 then(chk (decide (0<=t6a)) <|
 chk (decide (t6a<(p0.length:Int))) <|
 chk ((!(decide (((p0.getD t6a.toNat 0).toNat:Int)<48)))||(!(!(decide (((p0.getD t6a.toNat 0).toNat:Int)<48))))) <|
 chk ((!(decide (((p0.getD t6a.toNat 0).toNat:Int)<48)))||(!(!(decide (((p0.getD t6a.toNat 0).toNat:Int)<48))))) <|
 chk ((decide (0<=t6a))||(!(!(decide (((p0.getD t6a.toNat 0).toNat:Int)<48))))) <|
 chk ((decide (t6a<(p0.length:Int)))||(!(!(decide (((p0.getD t6a.toNat 0).toNat:Int)<48))))) <|
 chk ((!(decide (((p0.getD t6a.toNat 0).toNat:Int)<48)))||(!(!(decide (((p0.getD t6a.toNat 0).toNat:Int)<48))))) <|
 chk (bif decide (((p0.getD t6a.toNat 0).toNat:Int)<48)then true else !(decide (((p0.getD t6a.toNat 0).toNat:Int)<48))) <|
 chk (bif decide (((p0.getD t6a.toNat 0).toNat:Int)<48)then true else true) <|
 let x35:Bool:=bif decide (((p0.getD t6a.toNat 0).toNat:Int)<48)then true else decide (((p0.getD t6a.toNat 0).toNat:Int)>57)
 bif x35 then(some (([]:List Int),false))
 else(k1 (t5a,i64.wrap (t6a+1),l1000000a)))
 else(chk (decide (0<=t5a)) <|
 chk (decide (t5a<=t6a)) <|
 chk (decide (t6a<=(p0.length:Int))) <|
 Ah (((Ar p0 t5a.toNat t6a.toNat).length:Int)==0) fun b3 =>
 chk (!b3|| !!b3) <|
 chk (!b3|| !!b3) <|
 chk (bif b3 then true else !b3) <|
 chk (bif b3 then true else true) <|
 Ah (bif b3 then true else decide (((Ar p0 t5a.toNat t6a.toNat).length:Int)>10)) fun b4 =>
 Ah (b4) fun b5 =>
 chk (!b5|| !!b5) <|
 chk (!b5|| !!b5) <|
 chk (!b5|| !!b5) <|
 Ah (decide (((Ar p0 t5a.toNat t6a.toNat).length:Int)>1)) fun b6 =>
 chk (((!b5)&&b6)||(!((!b5)&&b6))) <|
 chk ((decide (0<((Ar p0 t5a.toNat t6a.toNat).length:Int)))||(!((!b5)&&b6))) <|
 chk (((!b5)&&b6)||(!((!b5)&&b6))) <|
 chk (!b5|| !!b5) <|
 chk ((bif b6 then((!b5)&&b6)else true)||(!!b5)) <|
 chk ((bif b6 then true else true)||(!!b5)) <|
 Ah (bif b6 then((((Ar p0 t5a.toNat t6a.toNat).getD 0 0).toNat:Int)==48)else false) fun b7 =>
 chk (bif b5 then true else !b5) <|
 chk (bif b5 then true else true) <|
 Ah (bif b5 then true else b7) fun b8 =>
 Ah (b8) fun b9 =>
 chk (!b9|| !!b9) <|
 chk (!b9|| !!b9) <|
 chk (bif b9 then true else !b9) <|
 chk (bif b9 then true else true) <|
 Ah (bif b9 then true else((l1000000a.length:Int)==12)) fun b10 =>
 bif b10 then(some (([]:List Int),false))
 else(Ap (X:=Int×Int×List Int) (Y:=(Int×List Int)) (U3 fun t8b t9b l1004096b k11 x12 =>
 bif decide (t9b<((Ar p0 t5a.toNat t6a.toNat).length:Int))then(chk (decide (0<=t9b)) <|
 chk (decide (t9b<((Ar p0 t5a.toNat t6a.toNat).length:Int))) <|
 let x74:Int:=IntKind.u8.wrap ((((Ar p0 t5a.toNat t6a.toNat).getD t9b.toNat 0).toNat:Int) - 48)
 let x76:Int:=i64.wrap ((i64.wrap ((10:Int)*t8b))+(i64.wrap x74))
 k11 (x76,i64.wrap (t9b+1),l1004096b))
 else(x12 (t8b,l1004096b)))
 N (0,0,l1000000a) (U2 fun t8c l1008192c =>
 bif decide (t8c>2147483647)then(some (([]:List Int),false))
 else(chk (decide ((l1008192c.length+1)*9<=140737488355328)) <|
 k1 (i64.wrap (t6a+1),i64.wrap (t6a+1),l1008192c++([t8c]:List Int)))))))
 else(x2 l1000000a))
 N (0,0,([]:List Int)) (fun l1012288d =>
 Ah (decide ((l1012288d.length:Int)<2)) fun b13 =>
 chk (!b13|| !!b13) <|
 chk ((decide (0<(l1012288d.length:Int)))||(!!b13)) <|
 chk (!b13|| !!b13) <|
 chk ((decide (0<l1012288d.length))||(!!b13)) <|
 chk (!b13|| !!b13) <|
 chk (bif b13 then true else !b13) <|
 chk (bif b13 then true else true) <|
 Ah (bif b13 then true else decide ((l1012288d.getD 0 0)>2)) fun b14 =>
 Ah (b14) fun b15 =>
 chk (!b15|| !!b15) <|
 chk ((decide (0<(l1012288d.length:Int)))||(!!b15)) <|
 chk (!b15|| !!b15) <|
 chk ((decide (0<l1012288d.length))||(!!b15)) <|
 chk (!b15|| !!b15) <|
 chk (!b15|| !!b15) <|
 Ah (decide ((l1012288d.getD 0 0)<2)) fun b16 =>
 chk (((!b15)&&b16)||(!((!b15)&&b16))) <|
 chk ((decide (1<(l1012288d.length:Int)))||(!((!b15)&&b16))) <|
 chk (((!b15)&&b16)||(!((!b15)&&b16))) <|
 chk ((decide (1<l1012288d.length))||(!((!b15)&&b16))) <|
 chk (((!b15)&&b16)||(!((!b15)&&b16))) <|
 chk (!b15|| !!b15) <|
 chk ((bif b16 then((!b15)&&b16)else true)||(!!b15)) <|
 chk ((bif b16 then true else true)||(!!b15)) <|
 Ah (bif b16 then decide ((l1012288d.getD 1 0)>39)else false) fun b17 =>
 chk (bif b15 then true else !b15) <|
 chk (bif b15 then true else true) <|
 Ah (bif b15 then true else b17) fun b18 =>
 bif b18 then(some (([]:List Int),false))
 else(some (l1012288d,true)))
def Du (N:Nat) (p0:Bs):Option Bool :=
 Ac (L9 N p0) fun r7 =>
 some r7.2
def PI (N:Nat) (p0:Bs):Option Bool :=
 Ap (X:=Int) (Y:=Unit) (fun t3a k1 x2 =>
 bif decide (t3a<(p0.length:Int))then(chk (decide (0<=t3a)) <|
 chk (decide (t3a<(p0.length:Int))) <|
 Dz (α :=Int×Int×Int) (fun j3 =>
 chk ((!(decide (((p0.getD t3a.toNat 0).toNat:Int)<32)))||(!(!(decide (((p0.getD t3a.toNat 0).toNat:Int)<32))))) <|
 chk (bif decide (((p0.getD t3a.toNat 0).toNat:Int)<32)then true else !(decide (((p0.getD t3a.toNat 0).toNat:Int)<32))) <|
 chk (bif decide (((p0.getD t3a.toNat 0).toNat:Int)<32)then true else true) <|
 let x22:Bool:=bif decide (((p0.getD t3a.toNat 0).toNat:Int)<32)then true else(((p0.getD t3a.toNat 0).toNat:Int)==127)
 bif x22 then(some false)
 else(bif decide (((p0.getD t3a.toNat 0).toNat:Int)<128)then(k1 (i64.wrap (t3a+1)))
 else(chk ((decide (((p0.getD t3a.toNat 0).toNat:Int)>=192))||(!(decide (((p0.getD t3a.toNat 0).toNat:Int)>=192)))) <|
 chk (bif decide (((p0.getD t3a.toNat 0).toNat:Int)>=192)then decide (((p0.getD t3a.toNat 0).toNat:Int)>=192)else true) <|
 chk (bif decide (((p0.getD t3a.toNat 0).toNat:Int)>=192)then true else true) <|
 let x34:Bool:=bif decide (((p0.getD t3a.toNat 0).toNat:Int)>=192)then decide (((p0.getD t3a.toNat 0).toNat:Int)<224)else false
 bif x34 then(j3 (t3a,1,128))
 else(chk ((decide (((p0.getD t3a.toNat 0).toNat:Int)>=224))||(!(decide (((p0.getD t3a.toNat 0).toNat:Int)>=224)))) <|
 chk (bif decide (((p0.getD t3a.toNat 0).toNat:Int)>=224)then decide (((p0.getD t3a.toNat 0).toNat:Int)>=224)else true) <|
 chk (bif decide (((p0.getD t3a.toNat 0).toNat:Int)>=224)then true else true) <|
 let x41:Bool:=bif decide (((p0.getD t3a.toNat 0).toNat:Int)>=224)then decide (((p0.getD t3a.toNat 0).toNat:Int)<240)else false
 bif x41 then(j3 (t3a,2,2048))
 else(chk ((decide (((p0.getD t3a.toNat 0).toNat:Int)>=240))||(!(decide (((p0.getD t3a.toNat 0).toNat:Int)>=240)))) <|
 chk (bif decide (((p0.getD t3a.toNat 0).toNat:Int)>=240)then decide (((p0.getD t3a.toNat 0).toNat:Int)>=240)else true) <|
 chk (bif decide (((p0.getD t3a.toNat 0).toNat:Int)>=240)then true else true) <|
 let x48:Bool:=bif decide (((p0.getD t3a.toNat 0).toNat:Int)>=240)then decide (((p0.getD t3a.toNat 0).toNat:Int)<248)else false
 bif x48 then(j3 (t3a,3,65536))
 else(some false))))))
 (U3 fun t3b t5b t6b =>
 bif decide ((i64.wrap ((p0.length:Int) - t3b))<=t5b)then(some false)
 else(chk (decide (0<=i64.wrap ((6:Int) - t5b))) <|
 let x59:Int:=i64.wrap ((1:Int)*(2 ^ (min (i64.wrap ((6:Int) - t5b)).toNat 64)))
 let x61:Int:=Ba .and .i64 (i64.wrap ((p0.getD t3a.toNat 0).toNat:Int)) (i64.wrap (x59 - 1))
 Ap (X:=Int×Int) (Y:=Int) (U2 fun t7c t8c k4 x5 =>
 bif decide (t8c<=t5b)then(chk (decide (0<=i64.wrap (t3b+t8c))) <|
 chk (decide (i64.wrap (t3b+t8c)<(p0.length:Int))) <|
 let x72:Int:=IntKind.u8.wrap (((p0.getD ((i64.wrap (t3b+t8c)).toNat) 0).toNat:Int).tdiv 64)
 bif (x72 != 2)then(some false)
 else(chk (decide (0<=i64.wrap (t3b+t8c))) <|
 chk (decide (i64.wrap (t3b+t8c)<(p0.length:Int))) <|
 let x81:Int:=((p0.getD ((i64.wrap (t3b+t8c)).toNat) 0).toNat:Int).tmod 64
 let x83:Int:=i64.wrap ((i64.wrap ((64:Int)*t7c))+(i64.wrap x81))
 k4 (x83,i64.wrap (t8c+1))))
 else(x5 t7c))
 N (x61,1) (fun t7d =>
 Ah (decide (t7d<t6b)) fun b6 =>
 chk (!b6|| !!b6) <|
 chk (bif b6 then true else !b6) <|
 chk (bif b6 then true else true) <|
 Ah (bif b6 then true else decide (t7d>1114111)) fun b7 =>
 Ah (b7) fun b8 =>
 chk (!b8|| !!b8) <|
 chk (!b8|| !!b8) <|
 Ah (decide (t7d>=55296)) fun b9 =>
 chk (((!b8)&&b9)||(!((!b8)&&b9))) <|
 chk (!b8|| !!b8) <|
 chk ((bif b9 then((!b8)&&b9)else true)||(!!b8)) <|
 chk ((bif b9 then true else true)||(!!b8)) <|
 Ah (bif b9 then decide (t7d<57344)else false) fun b10 =>
 chk (bif b8 then true else !b8) <|
 chk (bif b8 then true else true) <|
 Ah (bif b8 then true else b10) fun b11 =>
 bif b11 then(some false)
 else(k1 (i64.wrap (t3b+(i64.wrap (t5b+1)))))))))
 else(x2 ()))
 N 0 (fun _ =>
 some true)
def FQ (N:Nat) (p0:Int):Option Bool :=
 Ah (decide (p0>=65)) fun b1 =>
 chk (b1||(!b1)) <|
 chk (bif b1 then b1 else true) <|
 chk (bif b1 then true else true) <|
 Ah (bif b1 then decide (p0<=90)else false) fun b2 =>
 Ah (b2) fun b3 =>
 chk (!b3|| !!b3) <|
 chk (!b3|| !!b3) <|
 Ah (decide (p0>=97)) fun b4 =>
 chk (((!b3)&&b4)||(!((!b3)&&b4))) <|
 chk (!b3|| !!b3) <|
 chk ((bif b4 then((!b3)&&b4)else true)||(!!b3)) <|
 chk ((bif b4 then true else true)||(!!b3)) <|
 Ah (bif b4 then decide (p0<=122)else false) fun b5 =>
 chk (bif b3 then true else !b3) <|
 chk (bif b3 then true else true) <|
 Ah (bif b3 then true else b5) fun b6 =>
 Ah (b6) fun b7 =>
 chk (!b7|| !!b7) <|
 chk (!b7|| !!b7) <|
 Ah (decide (p0>=48)) fun b8 =>
 chk (((!b7)&&b8)||(!((!b7)&&b8))) <|
 chk (!b7|| !!b7) <|
 chk ((bif b8 then((!b7)&&b8)else true)||(!!b7)) <|
 chk ((bif b8 then true else true)||(!!b7)) <|
 Ah (bif b8 then decide (p0<=57)else false) fun b9 =>
 chk (bif b7 then true else !b7) <|
 chk (bif b7 then true else true) <|
 Ah (bif b7 then true else b9) fun b10 =>
 some b10
def H6 (N:Nat) (p0:Int) (p1:Bs):Option Bool :=
 Ap (X:=Int) (Y:=Unit) (fun t5a k1 x2 =>
 bif decide (t5a<(p1.length:Int))then(chk (decide (0<=t5a)) <|
 chk (decide (t5a<(p1.length:Int))) <|
 bif (((p1.getD t5a.toNat 0).toNat:Int)==p0)then(some true)
 else(k1 (i64.wrap (t5a+1))))
 else(x2 ()))
 N 0 (fun _ =>
 some false)
def Dw (N:Nat) (p0:Int) (p1:Bs):Option Bool :=
 bif (p0==12)then(Ac (PI N p1) fun r10 =>
 some r10)
 else(Dz (α :=Bool) (fun j1 =>
 bif (p0==19)then(j1 (p0==19))
 else(j1 (p0==22)))
 (fun t11a =>
 bif t11a then(Ap (X:=Int) (Y:=Unit) (fun t5b k2 x3 =>
 bif decide (t5b<(p1.length:Int))then(Ah (p0==22) fun b4 =>
 chk (b4||(!b4)) <|
 chk (b4||(!b4)) <|
 chk ((decide (0<=t5b))||(!b4)) <|
 chk ((decide (t5b<(p1.length:Int)))||(!b4)) <|
 chk (b4||(!b4)) <|
 chk (b4||(!b4)) <|
 Ah (decide (((p1.getD t5b.toNat 0).toNat:Int)<32)) fun b5 =>
 chk ((b4&&(!b5))||(!(b4&&(!b5)))) <|
 chk ((b4&&(!b5))||(!(b4&&(!b5)))) <|
 chk ((decide (0<=t5b))||(!(b4&&(!b5)))) <|
 chk ((decide (t5b<(p1.length:Int)))||(!(b4&&(!b5)))) <|
 chk ((b4&&(!b5))||(!(b4&&(!b5)))) <|
 chk (b4||(!b4)) <|
 chk ((bif b5 then true else(b4&&(!b5)))||(!b4)) <|
 chk ((bif b5 then true else true)||(!b4)) <|
 Ah (bif b5 then true else decide (((p1.getD t5b.toNat 0).toNat:Int)>126)) fun b6 =>
 chk (bif b4 then b4 else true) <|
 chk (bif b4 then true else true) <|
 Ah (bif b4 then b6 else false) fun b7 =>
 Ah (b7) fun b8 =>
 chk (!b8|| !!b8) <|
 chk (!b8|| !!b8) <|
 Ah (p0==19) fun b9 =>
 chk (((!b8)&&b9)||(!((!b8)&&b9))) <|
 chk (((!b8)&&b9)||(!((!b8)&&b9))) <|
 chk ((decide (0<=t5b))||(!((!b8)&&b9))) <|
 chk ((decide (t5b<(p1.length:Int)))||(!((!b8)&&b9))) <|
 chk (((!b8)&&b9)||(!((!b8)&&b9))) <|
 chk (((FQ N ((p1.getD t5b.toNat 0).toNat:Int)).isSome)||(!((!b8)&&b9))) <|
 let r41:=(FQ N ((p1.getD t5b.toNat 0).toNat:Int)).getD default
 chk (((!b8)&&b9)||(!((!b8)&&b9))) <|
 chk (!b8|| !!b8) <|
 chk ((bif b9 then((!b8)&&b9)else true)||(!!b8)) <|
 chk ((bif b9 then true else true)||(!!b8)) <|
 Ah (bif b9 then !r41 else false) fun b10 =>
 chk (!b8|| !!b8) <|
 Ah (b10) fun b11 =>
 chk (((!b8)&&b11)||(!((!b8)&&b11))) <|
 chk (((!b8)&&b11)||(!((!b8)&&b11))) <|
 chk ((decide (0<=t5b))||(!((!b8)&&b11))) <|
 chk ((decide (t5b<(p1.length:Int)))||(!((!b8)&&b11))) <|
 chk (((!b8)&&b11)||(!((!b8)&&b11))) <|
 chk (((H6 N ((p1.getD t5b.toNat 0).toNat:Int) ([32,39,40,41,43,44,45,46,47,58,61,63]:Bs)).isSome)||(!((!b8)&&b11))) <|
 let r48:=(H6 N ((p1.getD t5b.toNat 0).toNat:Int) ([32,39,40,41,43,44,45,46,47,58,61,63]:Bs)).getD default
 chk (((!b8)&&b11)||(!((!b8)&&b11))) <|
 chk (!b8|| !!b8) <|
 chk ((bif b11 then((!b8)&&b11)else true)||(!!b8)) <|
 chk ((bif b11 then true else true)||(!!b8)) <|
 Ah (bif b11 then !r48 else false) fun b12 =>
 chk (bif b8 then true else !b8) <|
 chk (bif b8 then true else true) <|
 Ah (bif b8 then true else b12) fun b13 =>
 bif b13 then(some false)
 else(k2 (i64.wrap (t5b+1))))
 else(x3 ()))
 N 0 (fun _ =>
 some true))
 else(some false)))
def CX (N:Nat) (p0:Yq0):Option Int :=
 Ap (X:=Int) (Y:=Unit) (fun t8a k1 x2 =>
 bif decide (t8a<(p0.length:Int))then(chk (decide (0<=t8a)) <|
 chk (decide (t8a<(p0.length:Int))) <|
 Ac (Du N ((p0.getD t8a.toNat (([]:Bs),0,([]:Bs))).1)) fun r15 =>
 bif !r15 then(some 11)
 else(let x20:Bool:=((((p0.getD t8a.toNat (([]:Bs),0,([]:Bs))).2.2).length:Int)==0)
 chk (!x20|| !!x20) <|
 chk (!x20|| !!x20) <|
 chk (!x20|| !!x20) <|
 chk (!x20|| !!x20) <|
 chk (((Dw N ((p0.getD t8a.toNat (([]:Bs),0,([]:Bs))).2.1) ((p0.getD t8a.toNat (([]:Bs),0,([]:Bs))).2.2)).isSome)||(!!x20)) <|
 let r26:=(Dw N ((p0.getD t8a.toNat (([]:Bs),0,([]:Bs))).2.1) ((p0.getD t8a.toNat (([]:Bs),0,([]:Bs))).2.2)).getD default
 chk (!x20|| !!x20) <|
 chk (bif x20 then true else !x20) <|
 chk (bif x20 then true else true) <|
 bif bif x20 then true else !r26 then(some 13)
 else(let x32:Bool:=decide ((((p0.getD t8a.toNat (([]:Bs),0,([]:Bs))).2.2).length:Int)>64)
 bif x32 then(some 2)
 else(Ap (X:=Int×Bs×Int×Bs) (Y:=Unit) (U4 fun t5b b33792_0b b33792_1b b33792_2b k3 x4 =>
 bif decide (t5b<t8a)then(chk (decide (0<=t5b)) <|
 chk (decide (t5b<(p0.length:Int))) <|
 bif (((p0.getD t5b.toNat (([]:Bs),0,([]:Bs))).1)==b33792_0b)then(some 10)
 else(k3 (i64.wrap (t5b+1),b33792_0b,b33792_1b,b33792_2b)))
 else(x4 ()))
 N (0,(p0.getD t8a.toNat (([]:Bs),0,([]:Bs))).1,(p0.getD t8a.toNat (([]:Bs),0,([]:Bs))).2.1,(p0.getD t8a.toNat (([]:Bs),0,([]:Bs))).2.2) (fun _ =>
 k1 (i64.wrap (t8a+1)))))))
 else(x2 ()))
 N 0 (fun _ =>
 some 0)
def Dx (N:Nat) (p0:List Yq0):Option Int :=
 bif decide ((p0.length:Int)>8)then(some 2)
 else(Ap (X:=Int) (Y:=Unit) (fun t13a k1 x2 =>
 bif decide (t13a<(p0.length:Int))then(chk (decide (0<=t13a)) <|
 chk (decide (t13a<(p0.length:Int))) <|
 let x19:Bool:=(((p0.getD t13a.toNat ([]:List (Bs×Int×Bs))).length:Int)==0)
 bif x19 then(some 14)
 else(let x22:Bool:=decide (((p0.getD t13a.toNat ([]:List (Bs×Int×Bs))).length:Int)>4)
 bif x22 then(some 2)
 else(Ac (CX N (p0.getD t13a.toNat ([]:List (Bs×Int×Bs)))) fun r24 =>
 bif (r24 != 0)then(some r24)
 else(k1 (i64.wrap (t13a+1))))))
 else(x2 ()))
 N 0 (fun _ =>
 some 0))
def FU (N:Nat) (p0:Bs) (p1:Int):Option (List Bs) :=
 Ap (X:=Int×Int×List Bs) (Y:=(List Bs)) (U3 fun t6a t7a l1000000a k1 x2 =>
 bif decide (t7a<=(p0.length:Int))then(chk ((!(t7a==(p0.length:Int)))||(!(!(t7a==(p0.length:Int))))) <|
 chk ((!(t7a==(p0.length:Int)))||(!(!(t7a==(p0.length:Int))))) <|
 chk ((decide (0<=t7a))||(!(!(t7a==(p0.length:Int))))) <|
 chk ((decide (t7a<(p0.length:Int)))||(!(!(t7a==(p0.length:Int))))) <|
 chk ((!(t7a==(p0.length:Int)))||(!(!(t7a==(p0.length:Int))))) <|
 chk ((!(t7a==(p0.length:Int)))||(!(!(t7a==(p0.length:Int))))) <|
 chk (bif (t7a==(p0.length:Int))then true else !(t7a==(p0.length:Int))) <|
 chk (bif (t7a==(p0.length:Int))then true else true) <|
 let x24:Bool:=bif (t7a==(p0.length:Int))then true else(((p0.getD t7a.toNat 0).toNat:Int)==p1)
 bif x24 then(chk (decide (0<=t6a)) <|
 chk (decide (t6a<=t7a)) <|
 chk (decide (t7a<=(p0.length:Int))) <|
 chk (decide ((l1000000a.length+1)*17<=140737488355328)) <|
 k1 (i64.wrap (t7a+1),i64.wrap (t7a+1),l1000000a++([Ar p0 t6a.toNat t7a.toNat]:List Bs)))
 else(k1 (t6a,i64.wrap (t7a+1),l1000000a)))
 else(x2 l1000000a))
 N (0,0,([]:List Bs)) (fun l1004096b =>
 some l1004096b)
def DR (N:Nat) (p0:Bs):Option Bool :=
 bif decide ((p0.length:Int)>128)then(some false)
 else(Ac (FU N p0 46) fun r10 =>
 Ap (X:=Int) (Y:=Unit) (fun t12a k1 x2 =>
 bif decide (t12a<(r10.length:Int))then(chk (decide (0<=t12a)) <|
 chk (decide (t12a<(r10.length:Int))) <|
 Ah (decide (((r10.getD t12a.toNat ([]:Bs)).length:Int)<1)) fun b3 =>
 chk (!b3|| !!b3) <|
 chk (!b3|| !!b3) <|
 chk (bif b3 then true else !b3) <|
 chk (bif b3 then true else true) <|
 Ah (bif b3 then true else decide (((r10.getD t12a.toNat ([]:Bs)).length:Int)>63)) fun b4 =>
 Ah (b4) fun b5 =>
 chk (!b5|| !!b5) <|
 chk ((decide (0<((r10.getD t12a.toNat ([]:Bs)).length:Int)))||(!!b5)) <|
 chk (!b5|| !!b5) <|
 let x27:Bool:=((((r10.getD t12a.toNat ([]:Bs)).getD 0 0).toNat:Int)==45)
 chk (bif b5 then true else !b5) <|
 chk (bif b5 then true else true) <|
 Ah (bif b5 then true else x27) fun b6 =>
 Ah (b6) fun b7 =>
 chk (!b7|| !!b7) <|
 chk (!b7|| !!b7) <|
 let x33:Int:=i64.wrap (((r10.getD t12a.toNat ([]:Bs)).length:Int) - 1)
 chk (!b7|| !!b7) <|
 chk (!b7|| !!b7) <|
 chk ((decide (0<=x33))||(!!b7)) <|
 chk ((decide (x33<((r10.getD t12a.toNat ([]:Bs)).length:Int)))||(!!b7)) <|
 chk (!b7|| !!b7) <|
 let x35:Bool:=((((r10.getD t12a.toNat ([]:Bs)).getD x33.toNat 0).toNat:Int)==45)
 chk (bif b7 then true else !b7) <|
 chk (bif b7 then true else true) <|
 Ah (bif b7 then true else x35) fun b8 =>
 bif b8 then(some false)
 else(Ap (X:=Int) (Y:=Unit) (fun t5b k9 x10 =>
 bif decide (t5b<((r10.getD t12a.toNat ([]:Bs)).length:Int))then(chk (decide (0<=t5b)) <|
 chk (decide (t5b<((r10.getD t12a.toNat ([]:Bs)).length:Int))) <|
 Ac (FQ N (((r10.getD t12a.toNat ([]:Bs)).getD t5b.toNat 0).toNat:Int)) fun r46 =>
 chk (!r46|| !!r46) <|
 chk (!r46|| !!r46) <|
 chk ((decide (0<=t5b))||(!!r46)) <|
 chk ((decide (t5b<((r10.getD t12a.toNat ([]:Bs)).length:Int)))||(!!r46)) <|
 chk (!r46|| !!r46) <|
 let x52:Bool:=((((r10.getD t12a.toNat ([]:Bs)).getD t5b.toNat 0).toNat:Int) != 45)
 chk (bif !r46 then !r46 else true) <|
 chk (bif !r46 then true else true) <|
 bif bif !r46 then x52 else false then(some false)
 else(k9 (i64.wrap (t5b+1))))
 else(x10 ()))
 N 0 (fun _ =>
 k1 (i64.wrap (t12a+1)))))
 else(x2 ()))
 N 0 (fun _ =>
 some true))
def Ri (N:Nat) (p0:Bs):Option (Bs×Bs×Bool) :=
 bif decide ((p0.length:Int)>128)then(some (([]:Bs),([]:Bs),false))
 else(Ap (X:=Int) (Y:=Int) (fun t5a k1 x2 =>
 chk ((decide (t5a<(p0.length:Int)))||(!(decide (t5a<(p0.length:Int))))) <|
 chk ((decide (t5a<(p0.length:Int)))||(!(decide (t5a<(p0.length:Int))))) <|
 chk ((decide (0<=t5a))||(!(decide (t5a<(p0.length:Int))))) <|
 chk ((decide (t5a<(p0.length:Int)))||(!(decide (t5a<(p0.length:Int))))) <|
 chk ((decide (t5a<(p0.length:Int)))||(!(decide (t5a<(p0.length:Int))))) <|
 chk (bif decide (t5a<(p0.length:Int))then decide (t5a<(p0.length:Int))else true) <|
 chk (bif decide (t5a<(p0.length:Int))then true else true) <|
 let x19:Bool:=bif decide (t5a<(p0.length:Int))then(((p0.getD t5a.toNat 0).toNat:Int) != 64)else false
 bif x19 then(k1 (i64.wrap (t5a+1)))
 else(x2 t5a))
 N 0 (fun t5b =>
 Ah (decide (t5b<1)) fun b3 =>
 chk (!b3|| !!b3) <|
 chk (bif b3 then true else !b3) <|
 chk (bif b3 then true else true) <|
 Ah (bif b3 then true else decide (t5b>64)) fun b4 =>
 Ah (b4) fun b5 =>
 chk (!b5|| !!b5) <|
 chk (!b5|| !!b5) <|
 chk (!b5|| !!b5) <|
 chk (bif b5 then true else !b5) <|
 chk (bif b5 then true else true) <|
 Ah (bif b5 then true else(t5b==(p0.length:Int))) fun b6 =>
 Ah (b6) fun b7 =>
 chk (!b7|| !!b7) <|
 chk (!b7|| !!b7) <|
 chk (!b7|| !!b7) <|
 chk ((decide (0<=i64.wrap (t5b+1)))||(!!b7)) <|
 chk ((decide (i64.wrap (t5b+1)<=(p0.length:Int)))||(!!b7)) <|
 chk (!b7|| !!b7) <|
 chk (((DR N (Ar p0 ((i64.wrap (t5b+1)).toNat) p0.length)).isSome)||(!!b7)) <|
 let r39:=(DR N (Ar p0 ((i64.wrap (t5b+1)).toNat) p0.length)).getD default
 chk (!b7|| !!b7) <|
 chk (bif b7 then true else !b7) <|
 chk (bif b7 then true else true) <|
 Ah (bif b7 then true else !r39) fun b8 =>
 Ah (b8) fun b9 =>
 chk (!b9|| !!b9) <|
 chk ((decide (0<(p0.length:Int)))||(!!b9)) <|
 chk (!b9|| !!b9) <|
 chk (bif b9 then true else !b9) <|
 chk (bif b9 then true else true) <|
 Ah (bif b9 then true else(((p0.getD 0 0).toNat:Int)==46)) fun b10 =>
 Ah (b10) fun b11 =>
 chk (!b11|| !!b11) <|
 chk (!b11|| !!b11) <|
 chk (!b11|| !!b11) <|
 chk ((decide (0<=i64.wrap (t5b - 1)))||(!!b11)) <|
 chk ((decide (i64.wrap (t5b - 1)<(p0.length:Int)))||(!!b11)) <|
 chk (!b11|| !!b11) <|
 let x52:Bool:=(((p0.getD ((i64.wrap (t5b - 1)).toNat) 0).toNat:Int)==46)
 chk (bif b11 then true else !b11) <|
 chk (bif b11 then true else true) <|
 Ah (bif b11 then true else x52) fun b12 =>
 bif b12 then(some (([]:Bs),([]:Bs),false))
 else(Ap (X:=Int) (Y:=Unit) (fun t6c k13 x14 =>
 bif decide (t6c<t5b)then(chk (decide (0<=t6c)) <|
 chk (decide (t6c<(p0.length:Int))) <|
 Ac (FQ N ((p0.getD t6c.toNat 0).toNat:Int)) fun r62 =>
 Ah (!r62) fun b15 =>
 chk (b15||(!b15)) <|
 chk (b15||(!b15)) <|
 chk ((decide (0<=t6c))||(!b15)) <|
 chk ((decide (t6c<(p0.length:Int)))||(!b15)) <|
 chk (b15||(!b15)) <|
 chk (((H6 N ((p0.getD t6c.toNat 0).toNat:Int) ([33,35,36,37,38,39,42,43,45,47,61,63,94,95,96,123,124,125,126,46]:Bs)).isSome)||(!b15)) <|
 let r68:=(H6 N ((p0.getD t6c.toNat 0).toNat:Int) ([33,35,36,37,38,39,42,43,45,47,61,63,94,95,96,123,124,125,126,46]:Bs)).getD default
 chk (b15||(!b15)) <|
 chk (bif b15 then b15 else true) <|
 chk (bif b15 then true else true) <|
 Ah (bif b15 then !r68 else false) fun b16 =>
 Ah (b16) fun b17 =>
 chk (!b17|| !!b17) <|
 chk (!b17|| !!b17) <|
 chk ((decide (0<=t6c))||(!!b17)) <|
 chk ((decide (t6c<(p0.length:Int)))||(!!b17)) <|
 chk (!b17|| !!b17) <|
 chk (!b17|| !!b17) <|
 Ah (((p0.getD t6c.toNat 0).toNat:Int)==46) fun b18 =>
 chk (((!b17)&&b18)||(!((!b17)&&b18))) <|
 chk (((!b17)&&b18)||(!((!b17)&&b18))) <|
 chk (((!b17)&&b18)||(!((!b17)&&b18))) <|
 chk ((decide (0<=i64.wrap (t6c+1)))||(!((!b17)&&b18))) <|
 chk ((decide (i64.wrap (t6c+1)<(p0.length:Int)))||(!((!b17)&&b18))) <|
 chk (((!b17)&&b18)||(!((!b17)&&b18))) <|
 let x81:Bool:=(((p0.getD ((i64.wrap (t6c+1)).toNat) 0).toNat:Int)==46)
 chk (!b17|| !!b17) <|
 chk ((bif b18 then((!b17)&&b18)else true)||(!!b17)) <|
 chk ((bif b18 then true else true)||(!!b17)) <|
 Ah (bif b18 then x81 else false) fun b19 =>
 chk (bif b17 then true else !b17) <|
 chk (bif b17 then true else true) <|
 Ah (bif b17 then true else b19) fun b20 =>
 bif b20 then(some (([]:Bs),([]:Bs),false))
 else(k13 (i64.wrap (t6c+1))))
 else(x14 ()))
 N 0 (fun _ =>
 chk (decide (0<=t5b)) <|
 chk (decide (t5b<=(p0.length:Int))) <|
 chk (decide (0<=i64.wrap (t5b+1))) <|
 chk (decide (i64.wrap (t5b+1)<=(p0.length:Int))) <|
 some (Ar p0 0 t5b.toNat,Ar p0 ((i64.wrap (t5b+1)).toNat) p0.length,true)))))
def LD (N:Nat) (p0:Bs):Option Bool :=
 Ac (Ri N p0) fun r8 =>
 some r8.2.2
def Ir (N:Nat) (p0:Bs):Option Bool :=
 Ac (LD N p0) fun r4 =>
 Ah (r4) fun b1 =>
 chk (!b1|| !!b1) <|
 chk (((DR N p0).isSome)||(!!b1)) <|
 let r7:=(DR N p0).getD default
 chk (bif b1 then true else !b1) <|
 chk (bif b1 then true else true) <|
 Ah (bif b1 then true else r7) fun b2 =>
 Ah (b2) fun b3 =>
 chk (!b3|| !!b3) <|
 chk (!b3|| !!b3) <|
 chk (!b3|| !!b3) <|
 Ah (decide ((p0.length:Int)<=128)) fun b4 =>
 chk (((!b3)&&b4)||(!((!b3)&&b4))) <|
 chk (((!b3)&&b4)||(!((!b3)&&b4))) <|
 chk (!b3|| !!b3) <|
 chk ((bif b4 then((!b3)&&b4)else true)||(!!b3)) <|
 chk ((bif b4 then true else true)||(!!b3)) <|
 Ah (bif b4 then decide ((p0.length:Int)>1)else false) fun b5 =>
 chk (!b3|| !!b3) <|
 Ah (b5) fun b6 =>
 chk (((!b3)&&b6)||(!((!b3)&&b6))) <|
 chk ((decide (0<(p0.length:Int)))||(!((!b3)&&b6))) <|
 chk (((!b3)&&b6)||(!((!b3)&&b6))) <|
 chk (!b3|| !!b3) <|
 chk ((bif b6 then((!b3)&&b6)else true)||(!!b3)) <|
 chk ((bif b6 then true else true)||(!!b3)) <|
 Ah (bif b6 then(((p0.getD 0 0).toNat:Int)==46)else false) fun b7 =>
 chk (!b3|| !!b3) <|
 Ah (b7) fun b8 =>
 chk (((!b3)&&b8)||(!((!b3)&&b8))) <|
 chk ((decide (1<=(p0.length:Int)))||(!((!b3)&&b8))) <|
 chk (((!b3)&&b8)||(!((!b3)&&b8))) <|
 chk (((DR N (Ar p0 1 p0.length)).isSome)||(!((!b3)&&b8))) <|
 let r26:=(DR N (Ar p0 1 p0.length)).getD default
 chk (!b3|| !!b3) <|
 chk ((bif b8 then((!b3)&&b8)else true)||(!!b3)) <|
 chk ((bif b8 then true else true)||(!!b3)) <|
 Ah (bif b8 then r26 else false) fun b9 =>
 chk (bif b3 then true else !b3) <|
 chk (bif b3 then true else true) <|
 Ah (bif b3 then true else b9) fun b10 =>
 some b10
def PK (N:Nat) (p0:Bs):Option Bool :=
 chk ((!(p0==([]:Bs)))||(!(!(p0==([]:Bs))))) <|
 chk (((DR N p0).isSome)||(!(!(p0==([]:Bs))))) <|
 let r7:=(DR N p0).getD default
 chk (bif (p0==([]:Bs))then true else !(p0==([]:Bs))) <|
 chk (bif (p0==([]:Bs))then true else true) <|
 some (bif (p0==([]:Bs))then true else r7)
def Jn (N:Nat) (p0:Bs):Option Bool :=
 Ac (DR N p0) fun r4 =>
 Ah (r4) fun b1 =>
 chk (!b1|| !!b1) <|
 chk (!b1|| !!b1) <|
 chk (!b1|| !!b1) <|
 Ah (decide ((p0.length:Int)<=128)) fun b2 =>
 chk (((!b1)&&b2)||(!((!b1)&&b2))) <|
 chk (((!b1)&&b2)||(!((!b1)&&b2))) <|
 chk (!b1|| !!b1) <|
 chk ((bif b2 then((!b1)&&b2)else true)||(!!b1)) <|
 chk ((bif b2 then true else true)||(!!b1)) <|
 Ah (bif b2 then decide ((p0.length:Int)>2)else false) fun b3 =>
 chk (!b1|| !!b1) <|
 Ah (b3) fun b4 =>
 chk (((!b1)&&b4)||(!((!b1)&&b4))) <|
 chk ((decide (2<=(p0.length:Int)))||(!((!b1)&&b4))) <|
 chk (((!b1)&&b4)||(!((!b1)&&b4))) <|
 chk (!b1|| !!b1) <|
 chk ((bif b4 then((!b1)&&b4)else true)||(!!b1)) <|
 chk ((bif b4 then true else true)||(!!b1)) <|
 Ah (bif b4 then((Ar p0 0 2)==([42,46]:Bs))else false) fun b5 =>
 chk (!b1|| !!b1) <|
 Ah (b5) fun b6 =>
 chk (((!b1)&&b6)||(!((!b1)&&b6))) <|
 chk ((decide (2<=(p0.length:Int)))||(!((!b1)&&b6))) <|
 chk (((!b1)&&b6)||(!((!b1)&&b6))) <|
 chk (((DR N (Ar p0 2 p0.length)).isSome)||(!((!b1)&&b6))) <|
 let r22:=(DR N (Ar p0 2 p0.length)).getD default
 chk (!b1|| !!b1) <|
 chk ((bif b6 then((!b1)&&b6)else true)||(!!b1)) <|
 chk ((bif b6 then true else true)||(!!b1)) <|
 Ah (bif b6 then r22 else false) fun b7 =>
 chk (!b1|| !!b1) <|
 Ah (b7) fun b8 =>
 chk (((!b1)&&b8)||(!((!b1)&&b8))) <|
 chk (((FU N p0 46).isSome)||(!((!b1)&&b8))) <|
 let r26:=(FU N p0 46).getD default
 chk (((!b1)&&b8)||(!((!b1)&&b8))) <|
 chk (((!b1)&&b8)||(!((!b1)&&b8))) <|
 chk (!b1|| !!b1) <|
 chk ((bif b8 then((!b1)&&b8)else true)||(!!b1)) <|
 chk ((bif b8 then true else true)||(!!b1)) <|
 Ah (bif b8 then decide ((r26.length:Int)>2)else false) fun b9 =>
 chk (bif b1 then true else !b1) <|
 chk (bif b1 then true else true) <|
 Ah (bif b1 then true else b9) fun b10 =>
 some b10
def MX (N:Nat) (p0:Bs):Option Bool :=
 chk (((p0.length:Int) != 8)||(!((p0.length:Int) != 8))) <|
 chk (((p0.length:Int) != 8)||(!((p0.length:Int) != 8))) <|
 chk (bif ((p0.length:Int) != 8)then((p0.length:Int) != 8)else true) <|
 chk (bif ((p0.length:Int) != 8)then true else true) <|
 let x14:Bool:=bif ((p0.length:Int) != 8)then((p0.length:Int) != 32)else false
 bif x14 then(some false)
 else(Ap (X:=Bool×Int) (Y:=Unit) (U2 fun t4a t5a k1 x2 =>
 let x20:Int:=i64.wrap ((8:Int)*(i64.wrap ((p0.length:Int).tdiv 2)))
 bif decide (t5a<x20)then(let x28:Int:=i64.wrap ((i64.wrap ((p0.length:Int).tdiv 2))+(i64.wrap (t5a.tdiv 8)))
 chk (decide (0<=x28)) <|
 chk (decide (x28<(p0.length:Int))) <|
 chk (decide (0<=i64.wrap ((7:Int) - (t5a.tmod 8)))) <|
 let x33:Int:=((p0.getD x28.toNat 0).toNat:Int).fdiv (2 ^ (min (i64.wrap ((7:Int) - (t5a.tmod 8))).toNat 8))
 Ah ((x33.tmod 2)==1) fun b3 =>
 chk (bif b3 then b3 else true) <|
 chk (bif b3 then true else true) <|
 Ah (bif b3 then t4a else false) fun b4 =>
 Ah (b4) fun b5 =>
 chk (!b5|| !!b5) <|
 chk (!b5|| !!b5) <|
 Ah (!((x33.tmod 2)==1)) fun b6 =>
 chk (((!b5)&&b6)||(!((!b5)&&b6))) <|
 chk (((!b5)&&b6)||(!((!b5)&&b6))) <|
 chk (((!b5)&&b6)||(!((!b5)&&b6))) <|
 chk ((decide (0<=i64.wrap (t5a.tdiv 8)))||(!((!b5)&&b6))) <|
 chk ((decide (i64.wrap (t5a.tdiv 8)<(p0.length:Int)))||(!((!b5)&&b6))) <|
 chk (((!b5)&&b6)||(!((!b5)&&b6))) <|
 chk (((!b5)&&b6)||(!((!b5)&&b6))) <|
 chk (((!b5)&&b6)||(!((!b5)&&b6))) <|
 chk (((!b5)&&b6)||(!((!b5)&&b6))) <|
 chk ((decide (0<=i64.wrap ((7:Int) - (t5a.tmod 8))))||(!((!b5)&&b6))) <|
 let x51:Int:=((p0.getD ((i64.wrap (t5a.tdiv 8)).toNat) 0).toNat:Int).fdiv (2 ^ (min (i64.wrap ((7:Int) - (t5a.tmod 8))).toNat 8))
 chk (((!b5)&&b6)||(!((!b5)&&b6))) <|
 chk (((!b5)&&b6)||(!((!b5)&&b6))) <|
 chk (!b5|| !!b5) <|
 chk ((bif b6 then((!b5)&&b6)else true)||(!!b5)) <|
 chk ((bif b6 then true else true)||(!!b5)) <|
 Ah (bif b6 then((x51.tmod 2)==1)else false) fun b7 =>
 chk (bif b5 then true else !b5) <|
 chk (bif b5 then true else true) <|
 Ah (bif b5 then true else b7) fun b8 =>
 bif b8 then(some false)
 else(chk (!t4a|| !!t4a) <|
 chk (bif t4a then true else !t4a) <|
 chk (bif t4a then true else true) <|
 k1 (bif t4a then true else !((x33.tmod 2)==1),i64.wrap (t5a+1))))
 else(x2 ()))
 N (false,0) (fun _ =>
 some true))
def Jm (N:Nat) (p0:Bs):Option Bool :=
 chk ((!((p0.length:Int)==4))||(!(!((p0.length:Int)==4)))) <|
 chk ((!((p0.length:Int)==4))||(!(!((p0.length:Int)==4)))) <|
 chk (bif ((p0.length:Int)==4)then true else !((p0.length:Int)==4)) <|
 chk (bif ((p0.length:Int)==4)then true else true) <|
 let x10:Bool:=bif ((p0.length:Int)==4)then true else((p0.length:Int)==16)
 some x10
def D5 (N:Nat) (p0:Yq1) (p1:Bool):Option Int :=
 Dz (α :=Bool×Int×Bs×List Yq0) (fun j1 =>
 bif (p0.1==1)then(Ah (p1) fun b2 =>
 chk (b2||(!b2)) <|
 chk (b2||(!b2)) <|
 chk (((Ir N p0.2.1).isSome)||(!b2)) <|
 let r14:=(Ir N p0.2.1).getD default
 chk (bif b2 then b2 else true) <|
 chk (bif b2 then true else true) <|
 Ah (bif b2 then r14 else false) fun b3 =>
 Ah (b3) fun b4 =>
 chk (!b4|| !!b4) <|
 chk (!b4|| !!b4) <|
 Ah (!p1) fun b5 =>
 chk (((!b4)&&b5)||(!((!b4)&&b5))) <|
 chk (((!b4)&&b5)||(!((!b4)&&b5))) <|
 chk (((LD N p0.2.1).isSome)||(!((!b4)&&b5))) <|
 let r22:=(LD N p0.2.1).getD default
 chk (!b4|| !!b4) <|
 chk ((bif b5 then((!b4)&&b5)else true)||(!!b4)) <|
 chk ((bif b5 then true else true)||(!!b4)) <|
 Ah (bif b5 then r22 else false) fun b6 =>
 chk (bif b4 then true else !b4) <|
 chk (bif b4 then true else true) <|
 Ah (bif b4 then true else b6) fun b7 =>
 j1 (b7,p0.1,p0.2.1,p0.2.2))
 else(bif (p0.1==2)then(Ah (p1) fun b8 =>
 chk (b8||(!b8)) <|
 chk (b8||(!b8)) <|
 chk (((PK N p0.2.1).isSome)||(!b8)) <|
 let r31:=(PK N p0.2.1).getD default
 chk (bif b8 then b8 else true) <|
 chk (bif b8 then true else true) <|
 Ah (bif b8 then r31 else false) fun b9 =>
 Ah (b9) fun b10 =>
 chk (!b10|| !!b10) <|
 chk (!b10|| !!b10) <|
 Ah (!p1) fun b11 =>
 chk (((!b10)&&b11)||(!((!b10)&&b11))) <|
 chk (((!b10)&&b11)||(!((!b10)&&b11))) <|
 chk (((Jn N p0.2.1).isSome)||(!((!b10)&&b11))) <|
 let r39:=(Jn N p0.2.1).getD default
 chk (!b10|| !!b10) <|
 chk ((bif b11 then((!b10)&&b11)else true)||(!!b10)) <|
 chk ((bif b11 then true else true)||(!!b10)) <|
 Ah (bif b11 then r39 else false) fun b12 =>
 chk (bif b10 then true else !b10) <|
 chk (bif b10 then true else true) <|
 Ah (bif b10 then true else b12) fun b13 =>
 j1 (b13,p0.1,p0.2.1,p0.2.2))
 else(bif (p0.1==7)then(Ah (p1) fun b14 =>
 chk (b14||(!b14)) <|
 chk (b14||(!b14)) <|
 chk (((MX N p0.2.1).isSome)||(!b14)) <|
 let r48:=(MX N p0.2.1).getD default
 chk (bif b14 then b14 else true) <|
 chk (bif b14 then true else true) <|
 Ah (bif b14 then r48 else false) fun b15 =>
 Ah (b15) fun b16 =>
 chk (!b16|| !!b16) <|
 chk (!b16|| !!b16) <|
 Ah (!p1) fun b17 =>
 chk (((!b16)&&b17)||(!((!b16)&&b17))) <|
 chk (((!b16)&&b17)||(!((!b16)&&b17))) <|
 chk (((Jm N p0.2.1).isSome)||(!((!b16)&&b17))) <|
 let r56:=(Jm N p0.2.1).getD default
 chk (!b16|| !!b16) <|
 chk ((bif b17 then((!b16)&&b17)else true)||(!!b16)) <|
 chk ((bif b17 then true else true)||(!!b16)) <|
 Ah (bif b17 then r56 else false) fun b18 =>
 chk (bif b16 then true else !b16) <|
 chk (bif b16 then true else true) <|
 Ah (bif b16 then true else b18) fun b19 =>
 j1 (b19,p0.1,p0.2.1,p0.2.2))
 else(bif (p0.1==4)then(bif !(p0.2.1==([]:Bs))then(some 14)
 else(Ac (Dx N p0.2.2) fun r66 =>
 some r66))
 else(j1 (false,p0.1,p0.2.1,p0.2.2))))))
 (U4 fun t5a b33280_0a b33280_1a b33280_2a =>
 chk ((!!t5a)||(!(!!t5a))) <|
 chk ((!!t5a)||(!(!!t5a))) <|
 chk ((!!t5a)||(!(!!t5a))) <|
 chk ((!!t5a)||(!(!!t5a))) <|
 chk (bif !t5a then true else !(!t5a)) <|
 chk (bif !t5a then true else true) <|
 bif bif !t5a then true else decide ((b33280_2a.length:Int)>0)then(some 14)
 else(some 0))
def IU (N:Nat) (p0:List Yq1):Option Int :=
 bif decide ((p0.length:Int)>16)then(some 2)
 else(Ap (X:=Int) (Y:=Unit) (fun t11a k1 x2 =>
 bif decide (t11a<(p0.length:Int))then(chk (decide (0<=t11a)) <|
 chk (decide (t11a<(p0.length:Int))) <|
 Ac (D5 N (p0.getD t11a.toNat (0,([]:Bs),([]:List Yq0))) false) fun r16 =>
 bif (r16 != 0)then(some r16)
 else(k1 (i64.wrap (t11a+1))))
 else(x2 ()))
 N 0 (fun _ =>
 some 0))
def CU (N:Nat) (p0:List Yq2):Option Int :=
 bif decide ((p0.length:Int)>4)then(some 2)
 else(Ap (X:=Int) (Y:=Unit) (fun t12a k1 x2 =>
 bif decide (t12a<(p0.length:Int))then(chk (decide (0<=t12a)) <|
 chk (decide (t12a<(p0.length:Int))) <|
 let x18:Int:=(((p0.getD t12a.toNat (([]:List Yq1),0,false,([]:List Yq0))).1).length:Int)
 Ah (x18==0) fun b3 =>
 chk (b3||(!b3)) <|
 let x22:Bool:=(p0.getD t12a.toNat (([]:List Yq1),0,false,([]:List Yq0))).2.2.1
 chk (b3||(!b3)) <|
 chk (bif b3 then b3 else true) <|
 chk (bif b3 then true else true) <|
 Ah (bif b3 then !x22 else false) fun b4 =>
 Ah (b4) fun b5 =>
 chk (!b5|| !!b5) <|
 let x27:Bool:=(p0.getD t12a.toNat (([]:List Yq1),0,false,([]:List Yq0))).2.2.1
 chk (!b5|| !!b5) <|
 chk (!b5|| !!b5) <|
 Ah (!x27) fun b6 =>
 chk (((!b5)&&b6)||(!((!b5)&&b6))) <|
 chk (((!b5)&&b6)||(!((!b5)&&b6))) <|
 chk (((!b5)&&b6)||(!((!b5)&&b6))) <|
 let x33:Int:=(((p0.getD t12a.toNat (([]:List Yq1),0,false,([]:List Yq0))).2.2.2).length:Int)
 chk (((!b5)&&b6)||(!((!b5)&&b6))) <|
 chk (!b5|| !!b5) <|
 chk ((bif b6 then((!b5)&&b6)else true)||(!!b5)) <|
 chk ((bif b6 then true else true)||(!!b5)) <|
 Ah (bif b6 then decide (x33>0)else false) fun b7 =>
 chk (bif b5 then true else !b5) <|
 chk (bif b5 then true else true) <|
 Ah (bif b5 then true else b7) fun b8 =>
 bif b8 then(some 7)
 else(let x39:Int:=Ba .andNot .i64 ((p0.getD t12a.toNat (([]:List Yq1),0,false,([]:List Yq0))).2.1) 510
 bif (x39 != 0)then(some 1)
 else(Ac (IU N ((p0.getD t12a.toNat (([]:List Yq1),0,false,([]:List Yq0))).1)) fun r43 =>
 bif (r43 != 0)then(some r43)
 else(let x48:Bool:=(p0.getD t12a.toNat (([]:List Yq1),0,false,([]:List Yq0))).2.2.1
 bif x48 then(let x52:Int:=(((p0.getD t12a.toNat (([]:List Yq1),0,false,([]:List Yq0))).2.2.2).length:Int)
 bif (x52==0)then(some 14)
 else(Ac (Dx N ((p0.getD t12a.toNat (([]:List Yq1),0,false,([]:List Yq0))).2.2.2)) fun r56 =>
 bif (r56 != 0)then(some r56)
 else(k1 (i64.wrap (t12a+1)))))
 else(k1 (i64.wrap (t12a+1)))))))
 else(x2 ()))
 N 0 (fun _ =>
 some 0))
def L8 (N:Nat) (p0:Bs):Option ((Int×Bs×Bs)×Bs×Int) :=
 bif ((p0.length:Int)==0)then(some ((0,([]:Bs),([]:Bs)),([]:Bs),3))
 else(chk (decide (0<(p0.length:Int))) <|
 bif ((((p0.getD 0 0).toNat:Int).tmod 32)==31)then(some ((0,([]:Bs),([]:Bs)),([]:Bs),5))
 else(bif ((p0.length:Int)==1)then(some ((0,([]:Bs),([]:Bs)),([]:Bs),3))
 else(chk (decide (1<(p0.length:Int))) <|
 chk ((!((i64.wrap ((p0.getD 1 0).toNat:Int))==128))||(!(!((i64.wrap ((p0.getD 1 0).toNat:Int))==128)))) <|
 chk (bif ((i64.wrap ((p0.getD 1 0).toNat:Int))==128)then true else !((i64.wrap ((p0.getD 1 0).toNat:Int))==128)) <|
 chk (bif ((i64.wrap ((p0.getD 1 0).toNat:Int))==128)then true else true) <|
 let x33:Bool:=bif ((i64.wrap ((p0.getD 1 0).toNat:Int))==128)then true else decide ((i64.wrap ((p0.getD 1 0).toNat:Int))>131)
 bif x33 then(some ((0,([]:Bs),([]:Bs)),([]:Bs),6))
 else(Dz (α :=Int×Int) (fun j1 =>
 bif decide ((i64.wrap ((p0.getD 1 0).toNat:Int))>128)then(let x38:Int:=i64.wrap ((i64.wrap ((p0.getD 1 0).toNat:Int)) - 128)
 bif decide ((p0.length:Int)<(i64.wrap ((2:Int)+x38)))then(some ((0,([]:Bs),([]:Bs)),([]:Bs),3))
 else(Ap (X:=Int×Int) (Y:=Int) (U2 fun t6b t9b k2 x3 =>
 bif decide (t9b<x38)then(chk (decide (0<=i64.wrap ((2:Int)+t9b))) <|
 chk (decide (i64.wrap ((2:Int)+t9b)<(p0.length:Int))) <|
 let x56:Int:=i64.wrap ((p0.getD ((i64.wrap ((2:Int)+t9b)).toNat) 0).toNat:Int)
 k2 (i64.wrap ((i64.wrap ((256:Int)*t6b))+x56),i64.wrap (t9b+1)))
 else(x3 t6b))
 N (0,0) (fun t6c =>
 chk (decide (0<=x38)) <|
 chk (decide (x38<4)) <|
 chk (decide (x38.toNat<4)) <|
 chk ((!(decide (t6c<(([0,128,256,65536]:List Int).getD x38.toNat 0))))||(!(!(decide (t6c<(([0,128,256,65536]:List Int).getD x38.toNat 0)))))) <|
 chk (bif decide (t6c<(([0,128,256,65536]:List Int).getD x38.toNat 0))then true else !(decide (t6c<(([0,128,256,65536]:List Int).getD x38.toNat 0)))) <|
 chk (bif decide (t6c<(([0,128,256,65536]:List Int).getD x38.toNat 0))then true else true) <|
 let x70:Bool:=bif decide (t6c<(([0,128,256,65536]:List Int).getD x38.toNat 0))then true else decide (t6c>131072)
 bif x70 then(some ((0,([]:Bs),([]:Bs)),([]:Bs),6))
 else(j1 (t6c,i64.wrap ((2:Int)+x38))))))
 else(j1 (i64.wrap ((p0.getD 1 0).toNat:Int),2)))
 (U2 fun t6a t7a =>
 bif decide ((i64.wrap ((p0.length:Int) - t7a))<t6a)then(some ((0,([]:Bs),([]:Bs)),([]:Bs),3))
 else(chk (decide (0<(p0.length:Int))) <|
 chk (decide (0<=t7a)) <|
 chk (decide (t7a<=i64.wrap (t7a+t6a))) <|
 chk (decide (i64.wrap (t7a+t6a)<=(p0.length:Int))) <|
 chk (decide (0<=i64.wrap (t7a+t6a))) <|
 chk (decide (i64.wrap (t7a+t6a)<=(p0.length:Int))) <|
 chk (decide (0<=i64.wrap (t7a+t6a))) <|
 chk (decide (i64.wrap (t7a+t6a)<=(p0.length:Int))) <|
 some ((i64.wrap ((p0.getD 0 0).toNat:Int),Ar p0 t7a.toNat ((i64.wrap (t7a+t6a)).toNat),Ar p0 0 ((i64.wrap (t7a+t6a)).toNat)),Ar p0 ((i64.wrap (t7a+t6a)).toNat) p0.length,0)))))))
def Ou (N:Nat) (p0:Bs):Option ((Int×Bs×Bs)×Int) :=
 Ac (L8 N p0) fun r9 =>
 bif (r9.2.2 != 0)then(some ((0,([]:Bs),([]:Bs)),r9.2.2))
 else(bif decide ((r9.2.1.length:Int)>0)then(some ((0,([]:Bs),([]:Bs)),4))
 else(some (r9.1,0)))
def PG (N:Nat) (p0:Int) (p1:List Bs):Option (Bs×Int) :=
 chk ((!(decide (p0<0)))||(!(!(decide (p0<0))))) <|
 chk (bif decide (p0<0)then true else !(decide (p0<0))) <|
 chk (bif decide (p0<0)then true else true) <|
 chk ((!(bif decide (p0<0)then true else decide (p0>255)))||(!(!(bif decide (p0<0)then true else decide (p0>255))))) <|
 chk ((!(bif decide (p0<0)then true else decide (p0>255)))||(!(!(bif decide (p0<0)then true else decide (p0>255))))) <|
 chk (bif bif decide (p0<0)then true else decide (p0>255)then true else !(bif decide (p0<0)then true else decide (p0>255))) <|
 chk (bif bif decide (p0<0)then true else decide (p0>255)then true else true) <|
 let x21:Bool:=bif bif decide (p0<0)then true else decide (p0>255)then true else((p0.tmod 32)==31)
 bif x21 then(some (([]:Bs),5))
 else(Ap (X:=Bs×Int) (Y:=Bs) (U2 fun t6a t24a k1 x2 =>
 bif decide (t24a<(p1.length:Int))then(chk (decide (0<=t24a)) <|
 chk (decide (t24a<(p1.length:Int))) <|
 chk (decide (t6a.length+(p1.getD t24a.toNat ([]:Bs)).length<=140737488355328)) <|
 k1 (t6a++(p1.getD t24a.toNat ([]:Bs)),i64.wrap (t24a+1)))
 else(x2 t6a))
 N (([]:Bs),0) (fun t6b =>
 bif decide ((t6b.length:Int)>131072)then(some (([]:Bs),6))
 else(Dz (α :=List Int) (fun j3 =>
 bif decide ((t6b.length:Int)>=65536)then(j3 ([IntKind.u8.wrap p0,131,IntKind.u8.wrap ((t6b.length:Int).fdiv (65536)),IntKind.u8.wrap ((t6b.length:Int).fdiv (256)),IntKind.u8.wrap (t6b.length:Int)]:List Int))
 else(bif decide ((t6b.length:Int)>=256)then(j3 ([IntKind.u8.wrap p0,130,IntKind.u8.wrap ((t6b.length:Int).fdiv (256)),IntKind.u8.wrap (t6b.length:Int)]:List Int))
 else(bif decide ((t6b.length:Int)>=128)then(j3 ([IntKind.u8.wrap p0,129,IntKind.u8.wrap (t6b.length:Int)]:List Int))
 else(j3 ([IntKind.u8.wrap p0,IntKind.u8.wrap (t6b.length:Int)]:List Int)))))
 (fun l1008192c =>
 chk (List.all l1008192c isByte) <|
 chk (decide ((List.map byteOf l1008192c).length+t6b.length<=140737488355328)) <|
 some ((List.map byteOf l1008192c)++t6b,0)))))
def Bd (N:Nat) (p0:Int) (p1:List Bs):Option Bs :=
 Ac (PG N p0 p1) fun r10 =>
 some r10.1
def L6 (N:Nat) (p0:Int):Option (Bs×Int) :=
 chk ((!(decide (p0<0)))||(!(!(decide (p0<0))))) <|
 chk (bif decide (p0<0)then true else !(decide (p0<0))) <|
 chk (bif decide (p0<0)then true else true) <|
 bif bif decide (p0<0)then true else decide (p0>65535)then(some (([]:Bs),1))
 else(Ap (X:=Int×Int) (Y:=Int) (U2 fun t4a t5a k1 x2 =>
 bif decide (t5a<16)then(chk (decide (0<=t5a)) <|
 bif (((p0.fdiv (2 ^ (min t5a.toNat 64))).tmod 2)==1)then(k1 (i64.wrap (t5a+1),i64.wrap (t5a+1)))
 else(k1 (t4a,i64.wrap (t5a+1))))
 else(x2 t4a))
 N (0,0) (fun t4b =>
 let x28:Int:=i64.wrap ((1:Int)+(i64.wrap ((i64.wrap (t4b+7)).tdiv 8)))
 chk (decide (x28<=x28)) <|
 chk (decide (0<=x28)) <|
 chk (decide (x28*2<=140737488355328)) <|
 let x34:Int:=i64.wrap ((8:Int)*(i64.wrap ((i64.wrap (t4b+7)).tdiv 8)))
 chk (decide (0<((List.replicate x28.toNat 0:List Int).length:Int))) <|
 chk (decide (0<(List.replicate x28.toNat 0:List Int).length)) <|
 let y40192:List Int:=(List.replicate x28.toNat 0:List Int).set 0 (IntKind.u8.wrap (i64.wrap (x34 - t4b)))
 Ap (X:=Int×List Int) (Y:=(List Int)) (U2 fun t7c l40192c k3 x4 =>
 bif decide (t7c<t4b)then(chk (decide (0<=t7c)) <|
 bif (((p0.fdiv (2 ^ (min t7c.toNat 64))).tmod 2)==1)then(chk (decide (0<=i64.wrap ((1:Int)+(i64.wrap (t7c.tdiv 8))))) <|
 chk (decide (i64.wrap ((1:Int)+(i64.wrap (t7c.tdiv 8)))<(l40192c.length:Int))) <|
 chk (decide ((i64.wrap ((1:Int)+(i64.wrap (t7c.tdiv 8)))).toNat<l40192c.length)) <|
 let x54:Int:=(l40192c.getD ((i64.wrap ((1:Int)+(i64.wrap (t7c.tdiv 8)))).toNat) 0)
 chk (decide (0<=t7c.tmod 8)) <|
 chk (decide (0<=i64.wrap ((1:Int)+(i64.wrap (t7c.tdiv 8))))) <|
 chk (decide (i64.wrap ((1:Int)+(i64.wrap (t7c.tdiv 8)))<(l40192c.length:Int))) <|
 chk (decide ((i64.wrap ((1:Int)+(i64.wrap (t7c.tdiv 8)))).toNat<l40192c.length)) <|
 let y40192:List Int:=l40192c.set ((i64.wrap ((1:Int)+(i64.wrap (t7c.tdiv 8)))).toNat) (Ba .or .u8 x54 ((128:Int).fdiv (2 ^ (min (t7c.tmod 8).toNat 8))))
 k3 (i64.wrap (t7c+1),y40192))
 else(k3 (i64.wrap (t7c+1),l40192c)))
 else(x4 l40192c))
 N (0,y40192) (fun l40192d =>
 chk (List.all l40192d isByte) <|
 some (List.map byteOf l40192d,0))))
def Jz (N:Nat) (p0:Int) (p1:Int):Option Bs :=
 bif (p1==0)then(some ([]:Bs))
 else(Ac (L6 N p1) fun r11 =>
 Ac (Bd N p0 ([r11.1]:List Bs)) fun r17 =>
 some r17)
def Rh (N:Nat) (p0:List Bs):Option Bs :=
 Ap (X:=Int×List Bs) (Y:=(List Bs)) (U2 fun t12a l1000000a k1 x2 =>
 bif decide (t12a<(p0.length:Int))then(chk (decide (0<=t12a)) <|
 chk (decide (t12a<(p0.length:Int))) <|
 Ap (X:=Int×List Bs) (Y:=(Int×List Bs)) (U2 fun t6b l1004096b k3 x4 =>
 chk ((decide (t6b<(l1004096b.length:Int)))||(!(decide (t6b<(l1004096b.length:Int))))) <|
 chk ((decide (t6b<(l1004096b.length:Int)))||(!(decide (t6b<(l1004096b.length:Int))))) <|
 chk ((decide (0<=t6b))||(!(decide (t6b<(l1004096b.length:Int))))) <|
 chk ((decide (t6b<(l1004096b.length:Int)))||(!(decide (t6b<(l1004096b.length:Int))))) <|
 chk ((decide (t6b<(l1004096b.length:Int)))||(!(decide (t6b<(l1004096b.length:Int))))) <|
 chk ((decide (t6b.toNat<l1004096b.length))||(!(decide (t6b<(l1004096b.length:Int))))) <|
 chk ((decide (t6b<(l1004096b.length:Int)))||(!(decide (t6b<(l1004096b.length:Int))))) <|
 chk ((decide (t6b<(l1004096b.length:Int)))||(!(decide (t6b<(l1004096b.length:Int))))) <|
 let x26:Bool:=(bytesLess (l1004096b.getD t6b.toNat ([]:Bs)) (p0.getD t12a.toNat ([]:Bs))||(l1004096b.getD t6b.toNat ([]:Bs))==(p0.getD t12a.toNat ([]:Bs)))
 chk (bif decide (t6b<(l1004096b.length:Int))then decide (t6b<(l1004096b.length:Int))else true) <|
 chk (bif decide (t6b<(l1004096b.length:Int))then true else true) <|
 bif bif decide (t6b<(l1004096b.length:Int))then x26 else false then(k3 (i64.wrap (t6b+1),l1004096b))
 else(x4 (t6b,l1004096b)))
 N (0,l1000000a) (U2 fun t6c l1008192c =>
 chk (decide (0<=t6c)) <|
 chk (decide (t6c<=(l1008192c.length:Int))) <|
 chk (decide (((Ar l1008192c 0 t6c.toNat).length)*17<=140737488355328)) <|
 chk (decide (((Ar l1008192c 0 t6c.toNat).length+1)*17<=140737488355328)) <|
 let y41984:List Bs:=(Ar l1008192c 0 t6c.toNat)++([(p0.getD t12a.toNat ([]:Bs))]:List Bs)
 chk (decide (0<=t6c)) <|
 chk (decide (t6c<=(l1008192c.length:Int))) <|
 chk (decide ((y41984.length+(Ar l1008192c t6c.toNat l1008192c.length).length)*17<=140737488355328)) <|
 k1 (i64.wrap (t12a+1),y41984++(Ar l1008192c t6c.toNat l1008192c.length))))
 else(x2 l1000000a))
 N (0,([]:List Bs)) (fun l1012288d =>
 Ap (X:=Bs×Int×List Bs) (Y:=Bs) (U3 fun t7e t44e l1012288e k5 x6 =>
 bif decide (t44e<(l1012288d.length:Int))then(chk (decide (0<=t44e)) <|
 chk (decide (t44e<(l1012288e.length:Int))) <|
 chk (decide (t44e.toNat<l1012288e.length)) <|
 chk (decide (t7e.length+(l1012288e.getD t44e.toNat ([]:Bs)).length<=140737488355328)) <|
 k5 (t7e++(l1012288e.getD t44e.toNat ([]:Bs)),i64.wrap (t44e+1),l1012288e))
 else(x6 t7e))
 N (([]:Bs),0,l1012288d) (fun t7f =>
 some t7f))
def JL (N:Nat) (p0:Bs):Option (Bs×Int) :=
 Ac (L9 N p0) fun r13 =>
 bif !r13.2 then(some (([]:Bs),11))
 else(chk (decide (0<(r13.1.length:Int))) <|
 chk (decide (1<(r13.1.length:Int))) <|
 let x25:Int:=i64.wrap ((i64.wrap ((40:Int)*(r13.1.getD 0 0)))+(r13.1.getD 1 0))
 chk (decide (2<=(r13.1.length:Int))) <|
 chk (decide ((1+(Ar r13.1 2 r13.1.length).length)*9<=140737488355328)) <|
 Ap (X:=Int×List Int×List Int) (Y:=(List Int)) (U3 fun t32a l40192a l1000000a k1 x2 =>
 let x33:Bool:=decide (t32a<((([x25]:List Int)++(Ar r13.1 2 r13.1.length)).length:Int))
 bif x33 then(chk (decide (0<=t32a)) <|
 chk (decide (t32a<(l40192a.length:Int))) <|
 chk (decide (t32a.toNat<l40192a.length)) <|
 Ap (X:=Int×List Int×List Int×List Int) (Y:=(List Int×List Int×List Int)) (U4 fun t8b l40192b l1004096b l1004112b k3 x4 =>
 chk (decide ((1+l1004096b.length)*2<=140737488355328)) <|
 bif ((i64.wrap (t8b.tdiv 128))==0)then(x4 (l40192b,([IntKind.u8.wrap (t8b.tmod 128)]:List Int)++l1004096b,l1004112b))
 else(k3 (i64.wrap (t8b.tdiv 128),l40192b,([IntKind.u8.wrap (t8b.tmod 128)]:List Int)++l1004096b,l1004112b)))
 N ((l40192a.getD t32a.toNat 0),l40192a,([]:List Int),l1000000a) (U3 fun l40192c l43264c l1008192c =>
 Ap (X:=Int×List Int×List Int×List Int) (Y:=(List Int×List Int×List Int)) (U4 fun t10d l40192d l43264d l1012288d k5 x6 =>
 let x50:Bool:=decide ((i64.wrap (t10d+1))<(l43264d.length:Int))
 bif x50 then(chk (decide (0<=t10d)) <|
 chk (decide (t10d<(l43264d.length:Int))) <|
 chk (decide (t10d.toNat<l43264d.length)) <|
 chk (decide (0<=t10d)) <|
 chk (decide (t10d<(l43264d.length:Int))) <|
 chk (decide (t10d.toNat<l43264d.length)) <|
 let y43264:List Int:=l43264d.set t10d.toNat (IntKind.u8.wrap ((l43264d.getD t10d.toNat 0)+128))
 k5 (i64.wrap (t10d+1),l40192d,y43264,l1012288d))
 else(x6 (l40192d,l43264d,l1012288d)))
 N (0,l40192c,l43264c,l1008192c) (U3 fun l40192e l43264e l1016384e =>
 chk (decide ((l1016384e.length+l43264e.length)*2<=140737488355328)) <|
 k1 (i64.wrap (t32a+1),l40192e,l1016384e++l43264e))))
 else(x2 l1000000a))
 N (0,([x25]:List Int)++(Ar r13.1 2 r13.1.length),([]:List Int)) (fun l1020480f =>
 chk (List.all l1020480f isByte) <|
 some (List.map byteOf l1020480f,0)))
def WR (N:Nat) (p0:Bs):Option Bs :=
 Ac (JL N p0) fun r7 =>
 Ac (Bd N 6 ([r7.1]:List Bs)) fun r12 =>
 some r12
def IP (N:Nat) (p0:Yq0):Option (List Bs) :=
 Ap (X:=Int×List Bs) (Y:=(List Bs)) (U2 fun t8a l1000000a k1 x2 =>
 bif decide (t8a<(p0.length:Int))then(chk (decide (0<=t8a)) <|
 chk (decide (t8a<(p0.length:Int))) <|
 Ac (WR N ((p0.getD t8a.toNat (([]:Bs),0,([]:Bs))).1)) fun r15 =>
 Ac (Bd N ((p0.getD t8a.toNat (([]:Bs),0,([]:Bs))).2.1) ([(p0.getD t8a.toNat (([]:Bs),0,([]:Bs))).2.2]:List Bs)) fun r21 =>
 Ac (Bd N 48 ([r15,r21]:List Bs)) fun r23 =>
 chk (decide ((l1000000a.length+1)*17<=140737488355328)) <|
 k1 (i64.wrap (t8a+1),l1000000a++([r23]:List Bs)))
 else(x2 l1000000a))
 N (0,([]:List Bs)) (fun l1004096b =>
 some l1004096b)
def IM (N:Nat) (p0:List Yq0):Option (Bs×Int) :=
 Ac (Dx N p0) fun r9 =>
 bif (r9 != 0)then(some (([]:Bs),r9))
 else(Ap (X:=Bs×Int) (Y:=Bs) (U2 fun t5a t16a k1 x2 =>
 bif decide (t16a<(p0.length:Int))then(chk (decide (0<=t16a)) <|
 chk (decide (t16a<(p0.length:Int))) <|
 Ac (IP N (p0.getD t16a.toNat ([]:List (Bs×Int×Bs)))) fun r22 =>
 Ac (Rh N r22) fun r23 =>
 Ac (Bd N 49 ([r23]:List Bs)) fun r25 =>
 chk (decide (t5a.length+r25.length<=140737488355328)) <|
 k1 (t5a++r25,i64.wrap (t16a+1)))
 else(x2 t5a))
 N (([]:Bs),0) (fun t5b =>
 Ac (Bd N 48 ([t5b]:List Bs)) fun r30 =>
 some (r30,0)))
def Gv (N:Nat) (p0:Yq1) (p1:Bool):Option (Bs×Int) :=
 Ac (D5 N p0 p1) fun r11 =>
 bif (r11 != 0)then(some (([]:Bs),r11))
 else(bif (p0.1==4)then(Ac (IM N p0.2.2) fun r21 =>
 Ac (Bd N (i64.wrap ((160:Int)+p0.1)) ([r21.1]:List Bs)) fun r29 =>
 some (r29,0))
 else(Ac (Bd N (i64.wrap ((128:Int)+p0.1)) ([p0.2.1]:List Bs)) fun r36 =>
 some (r36,0)))
def Gp (N:Nat) (p0:List Yq1):Option (Bs×Int) :=
 bif ((p0.length:Int)==0)then(some (([]:Bs),7))
 else(bif decide ((p0.length:Int)>16)then(some (([]:Bs),2))
 else(Ap (X:=Bs×Int) (Y:=Bs) (U2 fun t4a t17a k1 x2 =>
 bif decide (t17a<(p0.length:Int))then(chk (decide (0<=t17a)) <|
 chk (decide (t17a<(p0.length:Int))) <|
 Ac (Gv N (p0.getD t17a.toNat (0,([]:Bs),([]:List Yq0))) false) fun r23 =>
 bif (r23.2 != 0)then(some (([]:Bs),r23.2))
 else(chk (decide (t4a.length+r23.1.length<=140737488355328)) <|
 k1 (t4a++r23.1,i64.wrap (t17a+1))))
 else(x2 t4a))
 N (([]:Bs),0) (fun t4b =>
 some (t4b,0))))
def JP (N:Nat) (p0:List Yq0):Option Bs :=
 Ac (Gp N ([(4,([]:Bs),p0)]:List Yq1)) fun r9 =>
 some r9.1
def GZ (N:Nat) (p0:List Yq1):Option Bs :=
 bif ((p0.length:Int)==0)then(some ([]:Bs))
 else(Ac (Gp N p0) fun r10 =>
 Ac (Bd N 160 ([r10.1]:List Bs)) fun r15 =>
 Ac (Bd N 160 ([r15]:List Bs)) fun r17 =>
 some r17)
def O7 (N:Nat) (p0:Int) (p1:List Bs):Option (Bs×Int) :=
 Ac (PG N p0 p1) fun r11 =>
 bif (r11.2 != 0)then(some (([]:Bs),2))
 else(some (r11.1,0))
def Eg (N:Nat) (p0:List Yq2):Option (Bs×Int) :=
 bif ((p0.length:Int)==0)then(some (([]:Bs),7))
 else(Ac (CU N p0) fun r13 =>
 bif (r13 != 0)then(some (([]:Bs),r13))
 else(Ap (X:=Bs×Int) (Y:=Bs) (U2 fun t5a t19a k1 x2 =>
 bif decide (t19a<(p0.length:Int))then(chk (decide (0<=t19a)) <|
 chk (decide (t19a<(p0.length:Int))) <|
 Dz (α :=Bs×List Yq1×Int×Bool×List Yq0) (fun j3 =>
 let x24:Bool:=(p0.getD t19a.toNat (([]:List Yq1),0,false,([]:List Yq0))).2.2.1
 bif x24 then(Ac (JP N ((p0.getD t19a.toNat (([]:List Yq1),0,false,([]:List Yq0))).2.2.2)) fun r27 =>
 Ac (Bd N 162 ([r27]:List Bs)) fun r29 =>
 j3 (r29,(p0.getD t19a.toNat (([]:List Yq1),0,false,([]:List Yq0))).1,(p0.getD t19a.toNat (([]:List Yq1),0,false,([]:List Yq0))).2.1,(p0.getD t19a.toNat (([]:List Yq1),0,false,([]:List Yq0))).2.2.1,(p0.getD t19a.toNat (([]:List Yq1),0,false,([]:List Yq0))).2.2.2))
 else(j3 (([]:Bs),(p0.getD t19a.toNat (([]:List Yq1),0,false,([]:List Yq0))).1,(p0.getD t19a.toNat (([]:List Yq1),0,false,([]:List Yq0))).2.1,(p0.getD t19a.toNat (([]:List Yq1),0,false,([]:List Yq0))).2.2.1,(p0.getD t19a.toNat (([]:List Yq1),0,false,([]:List Yq0))).2.2.2)))
 (U5 fun t8b b34560_0b b34560_1b b34560_2b b34560_3b =>
 Ac (GZ N b34560_0b) fun r33 =>
 Ac (Jz N 129 b34560_1b) fun r36 =>
 Ac (Bd N 48 ([r33,r36,t8b]:List Bs)) fun r39 =>
 chk (decide (t5a.length+r39.length<=140737488355328)) <|
 k1 (t5a++r39,i64.wrap (t19a+1))))
 else(x2 t5a))
 N (([]:Bs),0) (fun t5c =>
 Ac (O7 N 48 ([t5c]:List Bs)) fun r44 =>
 some (r44.1,r44.2))))
def EL (N:Nat) (p0:List Yq0) (p1:List Yq0):Option Bool :=
 bif ((p0.length:Int) != (p1.length:Int))then(some false)
 else(Ap (X:=Int×List Yq0×List Yq0) (Y:=Unit) (U3 fun t21a b33280_0a b33536_0a k1 x2 =>
 bif decide (t21a<(p0.length:Int))then(chk (decide (0<=t21a)) <|
 chk (decide (t21a<(b33280_0a.length:Int))) <|
 chk (decide (0<=t21a)) <|
 chk (decide (t21a<(b33536_0a.length:Int))) <|
 let x36:Bool:=(((b33280_0a.getD t21a.toNat ([]:List (Bs×Int×Bs))).length:Int) != ((b33536_0a.getD t21a.toNat ([]:List (Bs×Int×Bs))).length:Int))
 bif x36 then(some false)
 else(chk (decide (0<=t21a)) <|
 chk (decide (t21a<(b33280_0a.length:Int))) <|
 Ap (X:=Int×List Yq0×List Yq0) (Y:=(List Yq0×List Yq0)) (U3 fun t43b b33280_0b b33536_0b k3 x4 =>
 let x44:Bool:=decide (t43b<((b33280_0a.getD t21a.toNat ([]:List (Bs×Int×Bs))).length:Int))
 bif x44 then(chk (decide (0<=t43b)) <|
 chk (decide (t43b<((b33280_0a.getD t21a.toNat ([]:List (Bs×Int×Bs))).length:Int))) <|
 chk (decide (0<=t21a)) <|
 chk (decide (t21a<(b33536_0b.length:Int))) <|
 Ap (X:=Bool×Int×List Yq0×List Yq0×Bs×Int×Bs) (Y:=(Bool×List Yq0×List Yq0)) (U7 fun t8c t53c b33280_0c b33536_0c b34560_0c b34560_1c b34560_2c k5 x6 =>
 let x54:Bool:=decide (t53c<((b33536_0b.getD t21a.toNat ([]:List (Bs×Int×Bs))).length:Int))
 bif x54 then(chk (decide (0<=t53c)) <|
 chk (decide (t53c<((b33536_0b.getD t21a.toNat ([]:List (Bs×Int×Bs))).length:Int))) <|
 chk (!t8c|| !!t8c) <|
 chk (!t8c|| !!t8c) <|
 let x61:Bool:=((b34560_0c==(((b33536_0b.getD t21a.toNat ([]:List (Bs×Int×Bs))).getD t53c.toNat (([]:Bs),0,([]:Bs))).1))&&((b34560_1c==(((b33536_0b.getD t21a.toNat ([]:List (Bs×Int×Bs))).getD t53c.toNat (([]:Bs),0,([]:Bs))).2.1))&&((b34560_2c==(((b33536_0b.getD t21a.toNat ([]:List (Bs×Int×Bs))).getD t53c.toNat (([]:Bs),0,([]:Bs))).2.2))&&true)))
 chk (bif t8c then true else !t8c) <|
 chk (bif t8c then true else true) <|
 k5 (bif t8c then true else x61,i64.wrap (t53c+1),b33280_0c,b33536_0c,b34560_0c,b34560_1c,b34560_2c))
 else(x6 (t8c,b33280_0c,b33536_0c)))
 N (false,0,b33280_0b,b33536_0b,((b33280_0a.getD t21a.toNat ([]:List (Bs×Int×Bs))).getD t43b.toNat (([]:Bs),0,([]:Bs))).1,((b33280_0a.getD t21a.toNat ([]:List (Bs×Int×Bs))).getD t43b.toNat (([]:Bs),0,([]:Bs))).2.1,((b33280_0a.getD t21a.toNat ([]:List (Bs×Int×Bs))).getD t43b.toNat (([]:Bs),0,([]:Bs))).2.2) (U3 fun t8d b33280_0d b33536_0d =>
 bif !t8d then(some false)
 else(k3 (i64.wrap (t43b+1),b33280_0d,b33536_0d))))
 else(x4 (b33280_0b,b33536_0b)))
 N (0,b33280_0a,b33536_0a) (U2 fun b33280_0e b33536_0e =>
 k1 (i64.wrap (t21a+1),b33280_0e,b33536_0e))))
 else(x2 ()))
 N (0,p0,p1) (fun _ =>
 some true))
def GY (N:Nat) (p0:List Yq1) (p1:List Yq1):Option Bool :=
 bif ((p0.length:Int) != (p1.length:Int))then(some false)
 else(Ap (X:=Int) (Y:=Unit) (fun t13a k1 x2 =>
 bif decide (t13a<(p0.length:Int))then(chk (decide (0<=t13a)) <|
 chk (decide (t13a<(p0.length:Int))) <|
 chk (decide (0<=t13a)) <|
 chk (decide (t13a<(p1.length:Int))) <|
 let x26:Bool:=(((p0.getD t13a.toNat (0,([]:Bs),([]:List Yq0))).1) != ((p1.getD t13a.toNat (0,([]:Bs),([]:List Yq0))).1))
 chk (!x26|| !!x26) <|
 chk (!x26|| !!x26) <|
 chk ((decide (0<=t13a))||(!!x26)) <|
 chk ((decide (t13a<(p0.length:Int)))||(!!x26)) <|
 chk (!x26|| !!x26) <|
 chk (!x26|| !!x26) <|
 chk (!x26|| !!x26) <|
 chk (!x26|| !!x26) <|
 chk ((decide (0<=t13a))||(!!x26)) <|
 chk ((decide (t13a<(p1.length:Int)))||(!!x26)) <|
 chk (!x26|| !!x26) <|
 chk (!x26|| !!x26) <|
 chk (!x26|| !!x26) <|
 chk (!x26|| !!x26) <|
 let x38:Bool:= !(((p0.getD t13a.toNat (0,([]:Bs),([]:List Yq0))).2.1)==((p1.getD t13a.toNat (0,([]:Bs),([]:List Yq0))).2.1))
 chk (bif x26 then true else !x26) <|
 chk (bif x26 then true else true) <|
 chk ((!(bif x26 then true else x38))||(!(!(bif x26 then true else x38)))) <|
 chk ((!(bif x26 then true else x38))||(!(!(bif x26 then true else x38)))) <|
 chk ((decide (0<=t13a))||(!(!(bif x26 then true else x38)))) <|
 chk ((decide (t13a<(p0.length:Int)))||(!(!(bif x26 then true else x38)))) <|
 chk ((!(bif x26 then true else x38))||(!(!(bif x26 then true else x38)))) <|
 chk ((!(bif x26 then true else x38))||(!(!(bif x26 then true else x38)))) <|
 chk ((!(bif x26 then true else x38))||(!(!(bif x26 then true else x38)))) <|
 chk ((!(bif x26 then true else x38))||(!(!(bif x26 then true else x38)))) <|
 chk ((decide (0<=t13a))||(!(!(bif x26 then true else x38)))) <|
 chk ((decide (t13a<(p1.length:Int)))||(!(!(bif x26 then true else x38)))) <|
 chk ((!(bif x26 then true else x38))||(!(!(bif x26 then true else x38)))) <|
 chk ((!(bif x26 then true else x38))||(!(!(bif x26 then true else x38)))) <|
 chk ((!(bif x26 then true else x38))||(!(!(bif x26 then true else x38)))) <|
 chk ((!(bif x26 then true else x38))||(!(!(bif x26 then true else x38)))) <|
 chk (((EL N ((p0.getD t13a.toNat (0,([]:Bs),([]:List Yq0))).2.2) ((p1.getD t13a.toNat (0,([]:Bs),([]:List Yq0))).2.2)).isSome)||(!(!(bif x26 then true else x38)))) <|
 let r51:=(EL N ((p0.getD t13a.toNat (0,([]:Bs),([]:List Yq0))).2.2) ((p1.getD t13a.toNat (0,([]:Bs),([]:List Yq0))).2.2)).getD default
 chk ((!(bif x26 then true else x38))||(!(!(bif x26 then true else x38)))) <|
 chk (bif bif x26 then true else x38 then true else !(bif x26 then true else x38)) <|
 chk (bif bif x26 then true else x38 then true else true) <|
 bif bif bif x26 then true else x38 then true else !r51 then(some false)
 else(k1 (i64.wrap (t13a+1))))
 else(x2 ()))
 N 0 (fun _ =>
 some true))
def IQ (N:Nat) (p0:List Yq2) (p1:List Yq2):Option Bool :=
 bif ((p0.length:Int) != (p1.length:Int))then(some false)
 else(Ap (X:=Int) (Y:=Unit) (fun t13a k1 x2 =>
 bif decide (t13a<(p0.length:Int))then(chk (decide (0<=t13a)) <|
 chk (decide (t13a<(p0.length:Int))) <|
 chk (decide (0<=t13a)) <|
 chk (decide (t13a<(p1.length:Int))) <|
 Ac (GY N ((p0.getD t13a.toNat (([]:List Yq1),0,false,([]:List Yq0))).1) ((p1.getD t13a.toNat (([]:List Yq1),0,false,([]:List Yq0))).1)) fun r26 =>
 Ah (!r26) fun b3 =>
 chk (!b3|| !!b3) <|
 chk (!b3|| !!b3) <|
 chk ((decide (0<=t13a))||(!!b3)) <|
 chk ((decide (t13a<(p0.length:Int)))||(!!b3)) <|
 chk (!b3|| !!b3) <|
 chk (!b3|| !!b3) <|
 chk (!b3|| !!b3) <|
 chk (!b3|| !!b3) <|
 chk ((decide (0<=t13a))||(!!b3)) <|
 chk ((decide (t13a<(p1.length:Int)))||(!!b3)) <|
 chk (!b3|| !!b3) <|
 chk (!b3|| !!b3) <|
 chk (!b3|| !!b3) <|
 chk (!b3|| !!b3) <|
 let x39:Bool:=(((p0.getD t13a.toNat (([]:List Yq1),0,false,([]:List Yq0))).2.1) != ((p1.getD t13a.toNat (([]:List Yq1),0,false,([]:List Yq0))).2.1))
 chk (bif b3 then true else !b3) <|
 chk (bif b3 then true else true) <|
 Ah (bif b3 then true else x39) fun b4 =>
 Ah (b4) fun b5 =>
 chk (!b5|| !!b5) <|
 chk (!b5|| !!b5) <|
 chk ((decide (0<=t13a))||(!!b5)) <|
 chk ((decide (t13a<(p0.length:Int)))||(!!b5)) <|
 chk (!b5|| !!b5) <|
 chk (!b5|| !!b5) <|
 let x46:Bool:=(p0.getD t13a.toNat (([]:List Yq1),0,false,([]:List Yq0))).2.2.1
 chk (!b5|| !!b5) <|
 chk (!b5|| !!b5) <|
 chk ((decide (0<=t13a))||(!!b5)) <|
 chk ((decide (t13a<(p1.length:Int)))||(!!b5)) <|
 chk (!b5|| !!b5) <|
 chk (!b5|| !!b5) <|
 let x51:Bool:=(p1.getD t13a.toNat (([]:List Yq1),0,false,([]:List Yq0))).2.2.1
 chk (!b5|| !!b5) <|
 chk (!b5|| !!b5) <|
 chk (bif b5 then true else !b5) <|
 chk (bif b5 then true else true) <|
 Ah (bif b5 then true else !(x46==x51)) fun b6 =>
 Ah (b6) fun b7 =>
 chk (!b7|| !!b7) <|
 chk (!b7|| !!b7) <|
 chk ((decide (0<=t13a))||(!!b7)) <|
 chk ((decide (t13a<(p0.length:Int)))||(!!b7)) <|
 chk (!b7|| !!b7) <|
 chk (!b7|| !!b7) <|
 chk (!b7|| !!b7) <|
 chk (!b7|| !!b7) <|
 chk ((decide (0<=t13a))||(!!b7)) <|
 chk ((decide (t13a<(p1.length:Int)))||(!!b7)) <|
 chk (!b7|| !!b7) <|
 chk (!b7|| !!b7) <|
 chk (!b7|| !!b7) <|
 chk (!b7|| !!b7) <|
 chk (((EL N ((p0.getD t13a.toNat (([]:List Yq1),0,false,([]:List Yq0))).2.2.2) ((p1.getD t13a.toNat (([]:List Yq1),0,false,([]:List Yq0))).2.2.2)).isSome)||(!!b7)) <|
 let r65:=(EL N ((p0.getD t13a.toNat (([]:List Yq1),0,false,([]:List Yq0))).2.2.2) ((p1.getD t13a.toNat (([]:List Yq1),0,false,([]:List Yq0))).2.2.2)).getD default
 chk (!b7|| !!b7) <|
 chk (bif b7 then true else !b7) <|
 chk (bif b7 then true else true) <|
 Ah (bif b7 then true else !r65) fun b8 =>
 bif b8 then(some false)
 else(k1 (i64.wrap (t13a+1))))
 else(x2 ()))
 N 0 (fun _ =>
 some true))
def Eu (N:Nat) (p0:List Yq0) (p1:List Yq0):Option Bool :=
 bif ((p0.length:Int) != (p1.length:Int))then(some false)
 else(Ap (X:=Int×List Yq0×List Yq0) (Y:=Unit) (U3 fun t17a b33280_0a b33536_0a k1 x2 =>
 bif decide (t17a<(p0.length:Int))then(chk (decide (0<=t17a)) <|
 chk (decide (t17a<(b33280_0a.length:Int))) <|
 chk (decide (0<=t17a)) <|
 chk (decide (t17a<(b33536_0a.length:Int))) <|
 let x32:Bool:=(((b33280_0a.getD t17a.toNat ([]:List (Bs×Int×Bs))).length:Int) != ((b33536_0a.getD t17a.toNat ([]:List (Bs×Int×Bs))).length:Int))
 bif x32 then(some false)
 else(chk (decide (0<=t17a)) <|
 chk (decide (t17a<(b33280_0a.length:Int))) <|
 Ap (X:=Int×List Yq0×List Yq0) (Y:=(List Yq0×List Yq0)) (U3 fun t39b b33280_0b b33536_0b k3 x4 =>
 let x40:Bool:=decide (t39b<((b33280_0a.getD t17a.toNat ([]:List (Bs×Int×Bs))).length:Int))
 bif x40 then(chk (decide (0<=t17a)) <|
 chk (decide (t17a<(b33280_0b.length:Int))) <|
 chk (decide (0<=t39b)) <|
 chk (decide (t39b<((b33280_0b.getD t17a.toNat ([]:List (Bs×Int×Bs))).length:Int))) <|
 chk (decide (0<=t17a)) <|
 chk (decide (t17a<(b33536_0b.length:Int))) <|
 chk (decide (0<=t39b)) <|
 chk (decide (t39b<((b33536_0b.getD t17a.toNat ([]:List (Bs×Int×Bs))).length:Int))) <|
 let x58:Bool:= !(((((b33280_0b.getD t17a.toNat ([]:List (Bs×Int×Bs))).getD t39b.toNat (([]:Bs),0,([]:Bs))).1)==(((b33536_0b.getD t17a.toNat ([]:List (Bs×Int×Bs))).getD t39b.toNat (([]:Bs),0,([]:Bs))).1))&&(((((b33280_0b.getD t17a.toNat ([]:List (Bs×Int×Bs))).getD t39b.toNat (([]:Bs),0,([]:Bs))).2.1)==(((b33536_0b.getD t17a.toNat ([]:List (Bs×Int×Bs))).getD t39b.toNat (([]:Bs),0,([]:Bs))).2.1))&&(((((b33280_0b.getD t17a.toNat ([]:List (Bs×Int×Bs))).getD t39b.toNat (([]:Bs),0,([]:Bs))).2.2)==(((b33536_0b.getD t17a.toNat ([]:List (Bs×Int×Bs))).getD t39b.toNat (([]:Bs),0,([]:Bs))).2.2))&&true)))
 bif x58 then(some false)
 else(k3 (i64.wrap (t39b+1),b33280_0b,b33536_0b)))
 else(x4 (b33280_0b,b33536_0b)))
 N (0,b33280_0a,b33536_0a) (U2 fun b33280_0c b33536_0c =>
 k1 (i64.wrap (t17a+1),b33280_0c,b33536_0c))))
 else(x2 ()))
 N (0,p0,p1) (fun _ =>
 some true))
def Gw (N:Nat) (p0:List Yq1) (p1:List Yq1):Option Bool :=
 bif ((p0.length:Int) != (p1.length:Int))then(some false)
 else(Ap (X:=Int) (Y:=Unit) (fun t13a k1 x2 =>
 bif decide (t13a<(p0.length:Int))then(chk (decide (0<=t13a)) <|
 chk (decide (t13a<(p0.length:Int))) <|
 chk (decide (0<=t13a)) <|
 chk (decide (t13a<(p1.length:Int))) <|
 let x26:Bool:=(((p0.getD t13a.toNat (0,([]:Bs),([]:List Yq0))).1) != ((p1.getD t13a.toNat (0,([]:Bs),([]:List Yq0))).1))
 chk (!x26|| !!x26) <|
 chk (!x26|| !!x26) <|
 chk ((decide (0<=t13a))||(!!x26)) <|
 chk ((decide (t13a<(p0.length:Int)))||(!!x26)) <|
 chk (!x26|| !!x26) <|
 chk (!x26|| !!x26) <|
 chk (!x26|| !!x26) <|
 chk (!x26|| !!x26) <|
 chk ((decide (0<=t13a))||(!!x26)) <|
 chk ((decide (t13a<(p1.length:Int)))||(!!x26)) <|
 chk (!x26|| !!x26) <|
 chk (!x26|| !!x26) <|
 chk (!x26|| !!x26) <|
 chk (!x26|| !!x26) <|
 let x38:Bool:= !(((p0.getD t13a.toNat (0,([]:Bs),([]:List Yq0))).2.1)==((p1.getD t13a.toNat (0,([]:Bs),([]:List Yq0))).2.1))
 chk (bif x26 then true else !x26) <|
 chk (bif x26 then true else true) <|
 chk ((!(bif x26 then true else x38))||(!(!(bif x26 then true else x38)))) <|
 chk ((!(bif x26 then true else x38))||(!(!(bif x26 then true else x38)))) <|
 chk ((decide (0<=t13a))||(!(!(bif x26 then true else x38)))) <|
 chk ((decide (t13a<(p0.length:Int)))||(!(!(bif x26 then true else x38)))) <|
 chk ((!(bif x26 then true else x38))||(!(!(bif x26 then true else x38)))) <|
 chk ((!(bif x26 then true else x38))||(!(!(bif x26 then true else x38)))) <|
 chk ((!(bif x26 then true else x38))||(!(!(bif x26 then true else x38)))) <|
 chk ((!(bif x26 then true else x38))||(!(!(bif x26 then true else x38)))) <|
 chk ((decide (0<=t13a))||(!(!(bif x26 then true else x38)))) <|
 chk ((decide (t13a<(p1.length:Int)))||(!(!(bif x26 then true else x38)))) <|
 chk ((!(bif x26 then true else x38))||(!(!(bif x26 then true else x38)))) <|
 chk ((!(bif x26 then true else x38))||(!(!(bif x26 then true else x38)))) <|
 chk ((!(bif x26 then true else x38))||(!(!(bif x26 then true else x38)))) <|
 chk ((!(bif x26 then true else x38))||(!(!(bif x26 then true else x38)))) <|
 chk (((Eu N ((p0.getD t13a.toNat (0,([]:Bs),([]:List Yq0))).2.2) ((p1.getD t13a.toNat (0,([]:Bs),([]:List Yq0))).2.2)).isSome)||(!(!(bif x26 then true else x38)))) <|
 let r51:=(Eu N ((p0.getD t13a.toNat (0,([]:Bs),([]:List Yq0))).2.2) ((p1.getD t13a.toNat (0,([]:Bs),([]:List Yq0))).2.2)).getD default
 chk ((!(bif x26 then true else x38))||(!(!(bif x26 then true else x38)))) <|
 chk (bif bif x26 then true else x38 then true else !(bif x26 then true else x38)) <|
 chk (bif bif x26 then true else x38 then true else true) <|
 bif bif bif x26 then true else x38 then true else !r51 then(some false)
 else(k1 (i64.wrap (t13a+1))))
 else(x2 ()))
 N 0 (fun _ =>
 some true))
def Fv (N:Nat) (p0:List Yq2) (p1:List Yq2):Option Bool :=
 Ac (IQ N p0 p1) fun r8 =>
 bif !r8 then(some false)
 else(Ap (X:=Int) (Y:=Unit) (fun t12a k1 x2 =>
 bif decide (t12a<(p0.length:Int))then(chk (decide (0<=t12a)) <|
 chk (decide (t12a<(p0.length:Int))) <|
 chk (decide (0<=t12a)) <|
 chk (decide (t12a<(p1.length:Int))) <|
 Ac (Gw N ((p0.getD t12a.toNat (([]:List Yq1),0,false,([]:List Yq0))).1) ((p1.getD t12a.toNat (([]:List Yq1),0,false,([]:List Yq0))).1)) fun r25 =>
 chk ((!!r25)||(!(!!r25))) <|
 chk ((!!r25)||(!(!!r25))) <|
 chk ((decide (0<=t12a))||(!(!!r25))) <|
 chk ((decide (t12a<(p0.length:Int)))||(!(!!r25))) <|
 chk ((!!r25)||(!(!!r25))) <|
 chk ((!!r25)||(!(!!r25))) <|
 chk ((!!r25)||(!(!!r25))) <|
 chk ((!!r25)||(!(!!r25))) <|
 chk ((decide (0<=t12a))||(!(!!r25))) <|
 chk ((decide (t12a<(p1.length:Int)))||(!(!!r25))) <|
 chk ((!!r25)||(!(!!r25))) <|
 chk ((!!r25)||(!(!!r25))) <|
 chk ((!!r25)||(!(!!r25))) <|
 chk ((!!r25)||(!(!!r25))) <|
 chk (((Eu N ((p0.getD t12a.toNat (([]:List Yq1),0,false,([]:List Yq0))).2.2.2) ((p1.getD t12a.toNat (([]:List Yq1),0,false,([]:List Yq0))).2.2.2)).isSome)||(!(!!r25))) <|
 let r38:=(Eu N ((p0.getD t12a.toNat (([]:List Yq1),0,false,([]:List Yq0))).2.2.2) ((p1.getD t12a.toNat (([]:List Yq1),0,false,([]:List Yq0))).2.2.2)).getD default
 chk ((!!r25)||(!(!!r25))) <|
 chk (bif !r25 then true else !(!r25)) <|
 chk (bif !r25 then true else true) <|
 bif bif !r25 then true else !r38 then(some false)
 else(k1 (i64.wrap (t12a+1))))
 else(x2 ()))
 N 0 (fun _ =>
 some true))
def MQ (N:Nat) (p0:List Int×Int) (p1:Bs):Option (Bs×List Int×Int) :=
 bif (p1==([]:Bs))then(some (p1,p0))
 else(Ac (Ak N p0 (p1.length:Int)) fun r13 =>
 Ac (Ak N r13.2 256) fun r15 =>
 chk (List.all ([IntKind.u8.wrap r15.1]:List Int) isByte) <|
 Ac (Ak N r15.2 5) fun r20 =>
 bif (r20.1==0)then(chk (decide (0<=r13.1)) <|
 chk (decide (r13.1<=(p1.length:Int))) <|
 chk (decide ((Ar p1 0 r13.1.toNat).length+(List.map byteOf ([IntKind.u8.wrap r15.1]:List Int)).length<=140737488355328)) <|
 let x27:Bs:=(Ar p1 0 r13.1.toNat)++(List.map byteOf ([IntKind.u8.wrap r15.1]:List Int))
 chk (decide (0<=i64.wrap (r13.1+1))) <|
 chk (decide (i64.wrap (r13.1+1)<=(p1.length:Int))) <|
 chk (decide (x27.length+(Ar p1 ((i64.wrap (r13.1+1)).toNat) p1.length).length<=140737488355328)) <|
 let x32:Bs:=x27++(Ar p1 ((i64.wrap (r13.1+1)).toNat) p1.length)
 some (x32,r20.2))
 else(bif (r20.1==1)then(chk (decide (0<=r13.1)) <|
 chk (decide (r13.1<=(p1.length:Int))) <|
 chk (decide ((Ar p1 0 r13.1.toNat).length+(List.map byteOf ([IntKind.u8.wrap r15.1]:List Int)).length<=140737488355328)) <|
 let x39:Bs:=(Ar p1 0 r13.1.toNat)++(List.map byteOf ([IntKind.u8.wrap r15.1]:List Int))
 chk (decide (0<=r13.1)) <|
 chk (decide (r13.1<=(p1.length:Int))) <|
 chk (decide (x39.length+(Ar p1 r13.1.toNat p1.length).length<=140737488355328)) <|
 some (x39++(Ar p1 r13.1.toNat p1.length),r20.2))
 else(bif (r20.1==2)then(chk (decide (0<=r13.1)) <|
 chk (decide (r13.1<=(p1.length:Int))) <|
 chk (decide (0<=i64.wrap (r13.1+1))) <|
 chk (decide (i64.wrap (r13.1+1)<=(p1.length:Int))) <|
 chk (decide ((Ar p1 0 r13.1.toNat).length+(Ar p1 ((i64.wrap (r13.1+1)).toNat) p1.length).length<=140737488355328)) <|
 let x53:Bs:=(Ar p1 0 r13.1.toNat)++(Ar p1 ((i64.wrap (r13.1+1)).toNat) p1.length)
 some (x53,r20.2))
 else(bif (r20.1==3)then(chk (decide (0<=r13.1)) <|
 chk (decide (r13.1<=(p1.length:Int))) <|
 some (Ar p1 0 r13.1.toNat,r20.2))
 else(some (p1,r20.2))))))
def Fp (N:Nat) (p0:List Int×Int) (p1:Bs):Option (Bs×List Int×Int) :=
 bif decide ((p1.length:Int)<2)then(some (p1,p0))
 else(chk (decide (2<=(p1.length:Int))) <|
 Ac (Ak N p0 6) fun r13 =>
 bif (r13.1==0)then(Ac (Ak N r13.2 31) fun r17 =>
 Ac (Bd N r17.1 ([Ar p1 2 p1.length]:List Bs)) fun r20 =>
 some (r20,r17.2))
 else(bif (r13.1==1)then(chk (decide (0<(p1.length:Int))) <|
 Ac (Bd N (Ba .andNot .i64 (i64.wrap ((p1.getD 0 0).toNat:Int)) 31) ([Ar p1 2 p1.length]:List Bs)) fun r29 =>
 some (r29,r13.2))
 else(bif (r13.1==2)then(chk (decide (0<(p1.length:Int))) <|
 Ac (Bd N (Ba .and .i64 (i64.wrap ((p1.getD 0 0).toNat:Int)) 224) ([([]:Bs)]:List Bs)) fun r37 =>
 some (r37,r13.2))
 else(bif (r13.1==3)then(Ac (Ak N r13.2 256) fun r41 =>
 chk (List.all ([IntKind.u8.wrap r41.1]:List Int) isByte) <|
 chk (decide (2+(List.map byteOf ([IntKind.u8.wrap r41.1]:List Int)).length<=140737488355328)) <|
 let x45:Bs:=([2,1]:Bs)++(List.map byteOf ([IntKind.u8.wrap r41.1]:List Int))
 some (x45,r41.2))
 else(bif (r13.1==4)then(some (([48,0]:Bs),r13.2))
 else(Ac (MQ N r13.2 p1) fun r50 =>
 some (r50.1,r50.2)))))))
def Lu (N:Nat) (p0:Bs):Option (Yq7×Int) :=
 Ap (X:=Bs×List (Int×Bs×Bs)) (Y:=(List (Int×Bs×Bs))) (U2 fun t0a l1000000a k1 x2 =>
 bif decide ((t0a.length:Int)>0)then(Ac (L8 N t0a) fun r13 =>
 bif (r13.2.2 != 0)then(some (([]:List (Int×Bs×Bs)),r13.2.2))
 else(chk (decide ((l1000000a.length+1)*41<=140737488355328)) <|
 k1 (r13.2.1,l1000000a++([r13.1]:List (Int×Bs×Bs)))))
 else(x2 l1000000a))
 N (p0,([]:List (Int×Bs×Bs))) (fun l1004096b =>
 some (l1004096b,0))
abbrev SE:Type:=Bs×List Int×Int
def NM (N:Nat) (F:(List Int×Int)->Bs->Option SE) (p0:List Int×Int) (p1:Bs):Option SE :=
 Ac (Ou N p1) fun r15 =>
 chk ((!(r15.2 != 0))||(!(!(r15.2 != 0)))) <|
 chk ((!(r15.2 != 0))||(!(!(r15.2 != 0)))) <|
 chk ((!(r15.2 != 0))||(!(!(r15.2 != 0)))) <|
 chk ((!(r15.2 != 0))||(!(!(r15.2 != 0)))) <|
 chk (bif (r15.2 != 0)then true else !(r15.2 != 0)) <|
 chk (bif (r15.2 != 0)then true else true) <|
 let x26:Bool:=bif (r15.2 != 0)then true else(((i64.wrap (r15.1.1.tdiv 32)).tmod 2)==0)
 bif x26 then(Ac (Fp N p0 p1) fun r29 =>
 some (r29.1,r29.2))
 else(Ac (Lu N r15.1.2.1) fun r33 =>
 chk ((!(r33.2 != 0))||(!(!(r33.2 != 0)))) <|
 chk ((!(r33.2 != 0))||(!(!(r33.2 != 0)))) <|
 chk (bif (r33.2 != 0)then true else !(r33.2 != 0)) <|
 chk (bif (r33.2 != 0)then true else true) <|
 let x42:Bool:=bif (r33.2 != 0)then true else((r33.1.length:Int)==0)
 bif x42 then(Ac (Fp N p0 p1) fun r45 =>
 some (r45.1,r45.2))
 else(Ac (Ak N p0 (r33.1.length:Int)) fun r49 =>
 Ac (Ak N r49.2 8) fun r51 =>
 Ap (X:=Bs×Int×List Int×Int×Int×Bs×Bs) (Y:=(Bs×List Int×Int×Int×Bs×Bs)) (U7 fun t9a t54a b0_0a b0_1a b34048_0a b34048_1a b34048_2a k1 x2 =>
 bif decide (t54a<(r33.1.length:Int))then(chk (decide (0<=t54a)) <|
 chk (decide (t54a<(r33.1.length:Int))) <|
 bif (t54a != r49.1)then(chk (decide (t9a.length+((r33.1.getD t54a.toNat (0,([]:Bs),([]:Bs))).2.2).length<=140737488355328)) <|
 k1 (t9a++((r33.1.getD t54a.toNat (0,([]:Bs),([]:Bs))).2.2),i64.wrap (t54a+1),b0_0a,b0_1a,b34048_0a,b34048_1a,b34048_2a))
 else(bif (r51.1==0)then(chk (decide (((r33.1.getD t54a.toNat (0,([]:Bs),([]:Bs))).2.2).length+((r33.1.getD t54a.toNat (0,([]:Bs),([]:Bs))).2.2).length<=140737488355328)) <|
 let x81:Bs:=((r33.1.getD t54a.toNat (0,([]:Bs),([]:Bs))).2.2)++((r33.1.getD t54a.toNat (0,([]:Bs),([]:Bs))).2.2)
 chk (decide (t9a.length+x81.length<=140737488355328)) <|
 k1 (t9a++x81,i64.wrap (t54a+1),b0_0a,b0_1a,b34048_0a,b34048_1a,b34048_2a))
 else(bif (r51.1==1)then(k1 (t9a,i64.wrap (t54a+1),b0_0a,b0_1a,b34048_0a,b34048_1a,b34048_2a))
 else(bif (r51.1==2)then(Ac (Fp N (b0_0a,b0_1a) ((r33.1.getD t54a.toNat (0,([]:Bs),([]:Bs))).2.2)) fun r93 =>
 chk (decide (t9a.length+r93.1.length<=140737488355328)) <|
 k1 (t9a++r93.1,i64.wrap (t54a+1),r93.2.1,r93.2.2,b34048_0a,b34048_1a,b34048_2a))
 else(Ac (F (b0_0a,b0_1a) ((r33.1.getD t54a.toNat (0,([]:Bs),([]:Bs))).2.2)) fun r63 =>
 chk (decide (t9a.length+r63.1.length<=140737488355328)) <|
 k1 (t9a++r63.1,i64.wrap (t54a+1),r63.2.1,r63.2.2,b34048_0a,b34048_1a,b34048_2a))))))
 else(x2 (t9a,b0_0a,b0_1a,b34048_0a,b34048_1a,b34048_2a)))
 N (([]:Bs),0,r51.2.1,r51.2.2,r15.1.1,r15.1.2.1,r15.1.2.2) (U6 fun t9b b0_0b b0_1b b34048_0b b34048_1b b34048_2b =>
 Ac (Bd N b34048_0b ([t9b]:List Bs)) fun r100 =>
 some (r100,(b0_0b,b0_1b)))))
def Jw (N:Nat):Nat->(List Int×Int)->Bs->Option SE
  | 0=>fun p0 p1=>none
  | n+1=>fun p0 p1=>NM N (Jw N n) p0 p1
def Q4 (N:Nat) (p0:Bs) (p1:Int):Option ((Int×Bs×Bs)×Int) :=
 Ac (Ut N p0) fun r10 =>
 bif (r10.2 != 0)then(some ((0,([]:Bs),([]:Bs)),r10.2))
 else(bif (r10.1.1 != p1)then(some ((0,([]:Bs),([]:Bs)),5))
 else(some (r10.1,0)))
def KT (N:Nat) (p0:Bs):Option (Yq7×Int) :=
 Ap (X:=Bs×List (Int×Bs×Bs)) (Y:=(List (Int×Bs×Bs))) (U2 fun t0a l1000000a k1 x2 =>
 bif !(t0a==([]:Bs))then(Ac (Oa N t0a) fun r12 =>
 bif (r12.2.2 != 0)then(some (([]:List (Int×Bs×Bs)),r12.2.2))
 else(chk (decide ((l1000000a.length+1)*41<=140737488355328)) <|
 k1 (r12.2.1,l1000000a++([r12.1]:List (Int×Bs×Bs)))))
 else(x2 l1000000a))
 N (p0,([]:List (Int×Bs×Bs))) (fun l1004096b =>
 some (l1004096b,0))
def Kq (N:Nat) (p0:Bs):Option ((Yq7×Int) ⊕ (Unit×Int)) :=
 Ac (KT N p0) fun r8 =>
 bif (r8.2 != 0)then(some (.inr ((),r8.2)))
 else(some (.inl (r8.1,0)))
def Zh (N:Nat) (p0:Bs) (p1:Int):Option ((Yq7×Int) ⊕ (Unit×Int)) :=
 Ac (Q4 N p0 p1) fun r11 =>
 bif (r11.2 != 0)then(some (.inr ((),r11.2)))
 else(mJ (Kq N r11.1.2.1) (fun r19 =>
 some (.inl (r19.1,r19.2)))
 (fun r19 =>
 some (.inr ((),r19.2))))
def JG (N:Nat) (p0:Yq7):Option (Int×Yq7) :=
 some ((p0.length:Int),p0)
def Q5 (N:Nat) (p0:Yq7):Option ((Int×Bs×Bs)×Int×Yq7) :=
 bif ((p0.length:Int)==0)then(some ((0,([]:Bs),([]:Bs)),3,p0))
 else(chk (decide (0<(p0.length:Int))) <|
 chk (decide (1<=(p0.length:Int))) <|
 some ((p0.getD 0 (0,([]:Bs),([]:Bs))),0,Ar p0 1 p0.length))
def OQ (N:Nat) (p0:Yq7) (p1:Int):Option ((Int×Bs×Bs)×Int×Yq7) :=
 chk ((decide ((p0.length:Int)>0))||(!(decide ((p0.length:Int)>0)))) <|
 chk ((decide ((p0.length:Int)>0))||(!(decide ((p0.length:Int)>0)))) <|
 chk ((decide ((p0.length:Int)>0))||(!(decide ((p0.length:Int)>0)))) <|
 chk ((decide ((p0.length:Int)>0))||(!(decide ((p0.length:Int)>0)))) <|
 chk ((decide (0<(p0.length:Int)))||(!(decide ((p0.length:Int)>0)))) <|
 chk ((decide ((p0.length:Int)>0))||(!(decide ((p0.length:Int)>0)))) <|
 chk ((decide ((p0.length:Int)>0))||(!(decide ((p0.length:Int)>0)))) <|
 chk ((decide ((p0.length:Int)>0))||(!(decide ((p0.length:Int)>0)))) <|
 chk ((decide ((p0.length:Int)>0))||(!(decide ((p0.length:Int)>0)))) <|
 chk (bif decide ((p0.length:Int)>0)then decide ((p0.length:Int)>0)else true) <|
 chk (bif decide ((p0.length:Int)>0)then true else true) <|
 let x22:Bool:=bif decide ((p0.length:Int)>0)then(((p0.getD 0 (0,([]:Bs),([]:Bs))).1) != p1)else false
 bif x22 then(some ((0,([]:Bs),([]:Bs)),5,p0))
 else(Ac (Q5 N p0) fun r25 =>
 some (r25.1,r25.2.1,r25.2.2))
def Ia (N:Nat) (p0:Yq7):Option ((Yq7×Int×Yq7) ⊕ (Unit×Int×Yq7)) :=
 Ac (OQ N p0 48) fun r8 =>
 bif (r8.2.1 != 0)then(some (.inr ((),r8.2.1,r8.2.2)))
 else(mJ (Kq N r8.1.2.1) (fun r16 =>
 some (.inl (r16.1,r16.2,r8.2.2)))
 (fun r16 =>
 some (.inr ((),r16.2,r8.2.2))))
def D8 (N:Nat) (p0:Yq7) (p1:Int):Option ((Int×Bs×Bs)×Bool×Yq7) :=
 chk ((!((p0.length:Int)==0))||(!(!((p0.length:Int)==0)))) <|
 chk ((!((p0.length:Int)==0))||(!(!((p0.length:Int)==0)))) <|
 chk ((!((p0.length:Int)==0))||(!(!((p0.length:Int)==0)))) <|
 chk ((!((p0.length:Int)==0))||(!(!((p0.length:Int)==0)))) <|
 chk ((decide (0<(p0.length:Int)))||(!(!((p0.length:Int)==0)))) <|
 chk ((!((p0.length:Int)==0))||(!(!((p0.length:Int)==0)))) <|
 chk ((!((p0.length:Int)==0))||(!(!((p0.length:Int)==0)))) <|
 chk ((!((p0.length:Int)==0))||(!(!((p0.length:Int)==0)))) <|
 chk ((!((p0.length:Int)==0))||(!(!((p0.length:Int)==0)))) <|
 chk (bif ((p0.length:Int)==0)then true else !((p0.length:Int)==0)) <|
 chk (bif ((p0.length:Int)==0)then true else true) <|
 let x23:Bool:=bif ((p0.length:Int)==0)then true else(((p0.getD 0 (0,([]:Bs),([]:Bs))).1) != p1)
 bif x23 then(some ((0,([]:Bs),([]:Bs)),false,p0))
 else(chk (decide (0<(p0.length:Int))) <|
 chk (decide (1<=(p0.length:Int))) <|
 some ((p0.getD 0 (0,([]:Bs),([]:Bs))),true,Ar p0 1 p0.length))
def Js (N:Nat) (p0:Yq7):Option Bool :=
 Ap (X:=Int) (Y:=Unit) (fun t3a k1 x2 =>
 bif decide (t3a<(p0.length:Int))then(chk (decide (0<=t3a)) <|
 chk (decide (t3a<(p0.length:Int))) <|
 chk (decide (0<=i64.wrap (t3a - 1))) <|
 chk (decide (i64.wrap (t3a - 1)<(p0.length:Int))) <|
 let x20:Bs:=(p0.getD ((i64.wrap (t3a - 1)).toNat) (0,([]:Bs),([]:Bs))).2.2
 bif bytesLess ((p0.getD t3a.toNat (0,([]:Bs),([]:Bs))).2.2) x20 then(some false)
 else(k1 (i64.wrap (t3a+1))))
 else(x2 ()))
 N 1 (fun _ =>
 some true)
def QX (N:Nat) (p0:Bs):Option (List Int) :=
 Ap (X:=Int×List Int) (Y:=(List Int)) (U2 fun t4a l1000000a k1 x2 =>
 bif decide (t4a<(p0.length:Int))then(chk (decide (0<=t4a)) <|
 chk (decide (t4a<(p0.length:Int))) <|
 bif (((p0.getD t4a.toNat 0).toNat:Int)==128)then(some ([]:List Int))
 else(Ap (X:=Int×Int×List Int) (Y:=(Int×List Int) ⊕ Unit) (U3 fun t4b t5b l1004096b k3 x4 =>
 bif decide (t4b<(p0.length:Int))then(chk (decide (0<=t4b)) <|
 chk (decide (t4b<(p0.length:Int))) <|
 let x28:Int:=Ba .and .i64 (i64.wrap ((p0.getD t4b.toNat 0).toNat:Int)) 127
 let x31:Bool:=decide ((Ba .or .i64 (i64.wrap (t5b*(128))) x28)>4294967294)
 bif x31 then(some ([]:List Int))
 else(let x33:Bool:=decide ((i64.wrap ((p0.getD t4b.toNat 0).toNat:Int))<128)
 bif x33 then(chk (decide ((l1004096b.length+1)*9<=140737488355328)) <|
 let y42240:List Int:=l1004096b++([Ba .or .i64 (i64.wrap (t5b*(128))) x28]:List Int)
 x4 (.inl (i64.wrap (t4b+1),y42240)))
 else(k3 (i64.wrap (t4b+1),Ba .or .i64 (i64.wrap (t5b*(128))) x28,l1004096b))))
 else(x4 (.inr ())))
 N (t4a,0,l1000000a) (Sum.elim (U2 fun t4c l42240c =>
 k1 (t4c,l42240c))
 (fun _ =>
 some ([]:List Int)))))
 else(x2 l1000000a))
 N (0,([]:List Int)) (fun l1016384e =>
 some l1016384e)
def Ub (N:Nat) (p0:Bs):Option (Bs×Int) :=
 Ac (QX N p0) fun r11 =>
 chk ((!((r11.length:Int)==0))||(!(!((r11.length:Int)==0)))) <|
 chk ((!((r11.length:Int)==0))||(!(!((r11.length:Int)==0)))) <|
 chk (bif ((r11.length:Int)==0)then true else !((r11.length:Int)==0)) <|
 chk (bif ((r11.length:Int)==0)then true else true) <|
 let x19:Bool:=bif ((r11.length:Int)==0)then true else decide ((r11.length:Int)>11)
 bif x19 then(some (([]:Bs),11))
 else(chk (decide (0<(r11.length:Int))) <|
 let x24:Int:=(bif decide (2<i64.wrap ((r11.getD 0 0).tdiv 40))then(2:Int)else i64.wrap ((r11.getD 0 0).tdiv 40))
 chk (decide (0<(r11.length:Int))) <|
 let x31:Int:=i64.wrap ((r11.getD 0 0) - (i64.wrap ((40:Int)*x24)))
 chk (decide (1<=(r11.length:Int))) <|
 chk (decide ((2+(Ar r11 1 r11.length).length)*9<=140737488355328)) <|
 Ap (X:=Int×List Int×List Bs) (Y:=(List Bs)) (U3 fun t38a l41728a l1000000a k1 x2 =>
 let x39:Bool:=decide (t38a<((([x24,x31]:List Int)++(Ar r11 1 r11.length)).length:Int))
 bif x39 then(chk (decide (0<=t38a)) <|
 chk (decide (t38a<(l41728a.length:Int))) <|
 chk (decide (t38a.toNat<l41728a.length)) <|
 bif decide ((l41728a.getD t38a.toNat 0)>2147483647)then(some (([]:Bs),11))
 else(Ac (strconv_Itoa N (l41728a.getD t38a.toNat 0)) fun r46 =>
 chk (decide ((l1000000a.length+1)*17<=140737488355328)) <|
 k1 (i64.wrap (t38a+1),l41728a,l1000000a++([r46]:List Bs))))
 else(x2 l1000000a))
 N (0,([x24,x31]:List Int)++(Ar r11 1 r11.length),([]:List Bs)) (fun l1004096b =>
 Ac (strings_Join N l1004096b ([46]:Bs)) fun r51 =>
 some (r51,0)))
def Ff (N:Nat) (p0:Int×Bs×Bs):Option ((Bs×Int×Bs)×Int) :=
 bif (p0.1 != 48)then(some ((([]:Bs),0,([]:Bs)),5))
 else(Ac (KT N p0.2.1) fun r15 =>
 bif (r15.2 != 0)then(some ((([]:Bs),0,([]:Bs)),r15.2))
 else(bif decide ((r15.1.length:Int)<1)then(some ((([]:Bs),0,([]:Bs)),3))
 else(chk (decide (0<(r15.1.length:Int))) <|
 bif (((r15.1.getD 0 (0,([]:Bs),([]:Bs))).1) != 6)then(some ((([]:Bs),0,([]:Bs)),5))
 else(chk (decide (0<(r15.1.length:Int))) <|
 Ac (Ub N ((r15.1.getD 0 (0,([]:Bs),([]:Bs))).2.1)) fun r37 =>
 bif (r37.2 != 0)then(some ((([]:Bs),0,([]:Bs)),r37.2))
 else(bif decide ((r15.1.length:Int)<2)then(some ((([]:Bs),0,([]:Bs)),3))
 else(Dz (α :=Unit) (fun j1 =>
 chk (decide (1<(r15.1.length:Int))) <|
 bif (((r15.1.getD 1 (0,([]:Bs),([]:Bs))).1)==12)then(bif (((r15.1.getD 1 (0,([]:Bs),([]:Bs))).1)==12)then(j1 ())
 else(some ((([]:Bs),0,([]:Bs)),5)))
 else(bif (((r15.1.getD 1 (0,([]:Bs),([]:Bs))).1)==19)then(bif (((r15.1.getD 1 (0,([]:Bs),([]:Bs))).1)==19)then(j1 ())
 else(some ((([]:Bs),0,([]:Bs)),5)))
 else(bif (((r15.1.getD 1 (0,([]:Bs),([]:Bs))).1)==22)then(j1 ())
 else(some ((([]:Bs),0,([]:Bs)),5)))))
 (fun _ =>
 bif decide ((r15.1.length:Int)>2)then(some ((([]:Bs),0,([]:Bs)),4))
 else(chk (decide (1<(r15.1.length:Int))) <|
 chk (decide (1<(r15.1.length:Int))) <|
 some ((r37.1,(r15.1.getD 1 (0,([]:Bs),([]:Bs))).1,(r15.1.getD 1 (0,([]:Bs),([]:Bs))).2.1),0)))))))))
def F9 (N:Nat) (p0:Int×Bs×Bs):Option (Yq0×Int) :=
 bif (p0.1 != 49)then(some (([]:List (Bs×Int×Bs)),5))
 else(Ac (KT N p0.2.1) fun r17 =>
 bif (r17.2 != 0)then(some (([]:List (Bs×Int×Bs)),r17.2))
 else(Ac (Js N r17.1) fun r24 =>
 bif !r24 then(some (([]:List (Bs×Int×Bs)),9))
 else(Ap (X:=Int×List (Bs×Int×Bs)) (Y:=(List (Bs×Int×Bs))) (U2 fun t28a l1000000a k1 x2 =>
 bif decide (t28a<(r17.1.length:Int))then(chk (decide (0<=t28a)) <|
 chk (decide (t28a<(r17.1.length:Int))) <|
 Ac (Ff N (r17.1.getD t28a.toNat (0,([]:Bs),([]:Bs)))) fun r34 =>
 bif (r34.2 != 0)then(some (([]:List (Bs×Int×Bs)),r34.2))
 else(chk (decide ((l1000000a.length+1)*41<=140737488355328)) <|
 k1 (i64.wrap (t28a+1),l1000000a++([r34.1]:List (Bs×Int×Bs)))))
 else(x2 l1000000a))
 N (0,([]:List (Bs×Int×Bs))) (fun l1004096b =>
 some (l1004096b,0)))))
def OT (N:Nat) (p0:Bs):Option (List Yq0×Int) :=
 Ac (Ut N p0) fun r16 =>
 bif (r16.2 != 0)then(some (([]:List Yq0),r16.2))
 else(bif (r16.1.1 != 48)then(some (([]:List Yq0),5))
 else(Ac (KT N r16.1.2.1) fun r30 =>
 bif (r30.2 != 0)then(some (([]:List Yq0),r30.2))
 else(Ap (X:=Int×List Yq0) (Y:=(List Yq0)) (U2 fun t39a l1000000a k1 x2 =>
 bif decide (t39a<(r30.1.length:Int))then(chk (decide (0<=t39a)) <|
 chk (decide (t39a<(r30.1.length:Int))) <|
 Ac (F9 N (r30.1.getD t39a.toNat (0,([]:Bs),([]:Bs)))) fun r45 =>
 bif (r45.2 != 0)then(some (([]:List Yq0),r45.2))
 else(chk (decide ((l1000000a.length+1)*25<=140737488355328)) <|
 k1 (i64.wrap (t39a+1),l1000000a++([r45.1]:List Yq0))))
 else(x2 l1000000a))
 N (0,([]:List Yq0)) (fun l1004096b =>
 Ac (EN N l1004096b) fun r60 =>
 bif (r60 != 0)then(some (([]:List Yq0),r60))
 else(some (l1004096b,0))))))
def OY (N:Nat) (p0:Int×Bs×Bs) (p1:Bool):Option (Yq1×Int) :=
 Dz (α :=Int×Bs×List Yq0) (fun j1 =>
 Dz (α :=Bool×Int×Bs×Bs) (fun j2 =>
 bif (p0.1==129)then(j2 ((p0.1==129),p0.1,p0.2.1,p0.2.2))
 else(bif (p0.1==130)then(j2 ((p0.1==130),p0.1,p0.2.1,p0.2.2))
 else(j2 ((p0.1==135),p0.1,p0.2.1,p0.2.2))))
 (U4 fun t13b b33280_0b b33280_1b b33280_2b =>
 bif t13b then(j1 (i64.wrap (b33280_0b - 128),b33280_1b,([]:List Yq0)))
 else(bif (p0.1==164)then(Ac (OT N b33280_1b) fun r29 =>
 bif (r29.2 != 0)then(some ((0,([]:Bs),([]:List Yq0)),r29.2))
 else(j1 (4,([]:Bs),r29.1)))
 else(some ((0,([]:Bs),([]:List Yq0)),5)))))
 (U3 fun b34304_0a b34304_1a b34304_2a =>
 Ac (FP N (b34304_0a,b34304_1a,b34304_2a) p1) fun r41 =>
 bif (r41 != 0)then(some ((0,([]:Bs),([]:List Yq0)),r41))
 else(some ((b34304_0a,b34304_1a,b34304_2a),0)))
def Ec (N:Nat) (p0:Bs):Option (List Yq1×Int) :=
 Ac (KT N p0) fun r14 =>
 bif (r14.2 != 0)then(some (([]:List Yq1),r14.2))
 else(Ac (MN N (r14.1.length:Int)) fun r22 =>
 bif (r22 != 0)then(some (([]:List Yq1),r22))
 else(Ap (X:=Int×List Yq1) (Y:=(List Yq1)) (U2 fun t28a l1000000a k1 x2 =>
 bif decide (t28a<(r14.1.length:Int))then(chk (decide (0<=t28a)) <|
 chk (decide (t28a<(r14.1.length:Int))) <|
 Ac (OY N (r14.1.getD t28a.toNat (0,([]:Bs),([]:Bs))) false) fun r34 =>
 bif (r34.2 != 0)then(some (([]:List Yq1),r34.2))
 else(chk (decide ((l1000000a.length+1)*49<=140737488355328)) <|
 k1 (i64.wrap (t28a+1),l1000000a++([r34.1]:List Yq1))))
 else(x2 l1000000a))
 N (0,([]:List Yq1)) (fun l1004096b =>
 some (l1004096b,0))))
def P8 (N:Nat) (p0:Bs) (p1:Int):Option Bool :=
 bif (p1==0)then(some true)
 else(chk ((!(p0==([]:Bs)))||(!(!(p0==([]:Bs))))) <|
 chk ((!(p0==([]:Bs)))||(!(!(p0==([]:Bs))))) <|
 chk ((!(p0==([]:Bs)))||(!(!(p0==([]:Bs))))) <|
 chk ((!(p0==([]:Bs)))||(!(!(p0==([]:Bs))))) <|
 chk ((decide (0<=i64.wrap ((p0.length:Int) - 1)))||(!(!(p0==([]:Bs))))) <|
 chk ((decide (i64.wrap ((p0.length:Int) - 1)<(p0.length:Int)))||(!(!(p0==([]:Bs))))) <|
 let x14:Int:=((p0.getD ((i64.wrap ((p0.length:Int) - 1)).toNat) 0).toNat:Int)
 chk ((!(p0==([]:Bs)))||(!(!(p0==([]:Bs))))) <|
 chk ((!(p0==([]:Bs)))||(!(!(p0==([]:Bs))))) <|
 chk ((decide (0<=IntKind.u64.wrap p1))||(!(!(p0==([]:Bs))))) <|
 let x17:Int:=IntKind.u8.wrap ((1:Int)*(2 ^ (min (IntKind.u64.wrap p1).toNat 8)))
 chk ((!(p0==([]:Bs)))||(!(!(p0==([]:Bs))))) <|
 chk ((!(p0==([]:Bs)))||(!(!(p0==([]:Bs))))) <|
 chk ((!(p0==([]:Bs)))||(!(!(p0==([]:Bs))))) <|
 chk ((!(p0==([]:Bs)))||(!(!(p0==([]:Bs))))) <|
 let x20:Bool:=((Ba .and .u8 x14 (IntKind.u8.wrap (x17 - 1)))==0)
 chk (bif !(p0==([]:Bs))then !(p0==([]:Bs))else true) <|
 chk (bif !(p0==([]:Bs))then true else true) <|
 some (bif !(p0==([]:Bs))then x20 else false))
def WE (N:Nat) (p0:Bs):Option (Bs×Int×Int) :=
 chk ((!(p0==([]:Bs)))||(!(!(p0==([]:Bs))))) <|
 chk ((decide (0<(p0.length:Int)))||(!(!(p0==([]:Bs))))) <|
 chk ((!(p0==([]:Bs)))||(!(!(p0==([]:Bs))))) <|
 chk (bif (p0==([]:Bs))then true else !(p0==([]:Bs))) <|
 chk (bif (p0==([]:Bs))then true else true) <|
 let x11:Bool:=bif (p0==([]:Bs))then true else decide (((p0.getD 0 0).toNat:Int)>7)
 chk (!x11|| !!x11) <|
 chk ((decide (1<=(p0.length:Int)))||(!!x11)) <|
 chk (!x11|| !!x11) <|
 chk ((decide (0<(p0.length:Int)))||(!!x11)) <|
 chk (!x11|| !!x11) <|
 chk (!x11|| !!x11) <|
 chk (!x11|| !!x11) <|
 chk (((P8 N (Ar p0 1 p0.length) (i64.wrap ((p0.getD 0 0).toNat:Int))).isSome)||(!!x11)) <|
 let r18:=(P8 N (Ar p0 1 p0.length) (i64.wrap ((p0.getD 0 0).toNat:Int))).getD default
 chk (!x11|| !!x11) <|
 chk (bif x11 then true else !x11) <|
 chk (bif x11 then true else true) <|
 bif bif x11 then true else !r18 then(some (([]:Bs),0,7))
 else(chk (decide (1<=(p0.length:Int))) <|
 chk (decide (0<(p0.length:Int))) <|
 some (Ar p0 1 p0.length,i64.wrap ((p0.getD 0 0).toNat:Int),0))
def QI (N:Nat) (p0:Bs) (p1:Int):Option Bool :=
 chk (decide (0<=i64.wrap (p1.tdiv 8))) <|
 chk (decide (i64.wrap (p1.tdiv 8)<(p0.length:Int))) <|
 chk (decide (0<=IntKind.u64.wrap ((7:Int) - (IntKind.u64.wrap (p1.tmod 8))))) <|
 let x13:Int:=((p0.getD ((i64.wrap (p1.tdiv 8)).toNat) 0).toNat:Int).fdiv (2 ^ (min (IntKind.u64.wrap ((7:Int) - (IntKind.u64.wrap (p1.tmod 8)))).toNat 8))
 some ((Ba .and .u8 x13 1)==1)
def Pz (N:Nat) (p0:Bs):Option (Int×Int) :=
 Ac (WE N p0) fun r12 =>
 bif (r12.2.2 != 0)then(some (0,r12.2.2))
 else(let x23:Int:=i64.wrap ((i64.wrap ((8:Int)*(r12.1.length:Int))) - r12.2.1)
 chk ((decide (x23>0))||(!(decide (x23>0)))) <|
 chk ((decide (x23>0))||(!(decide (x23>0)))) <|
 chk ((decide (x23>0))||(!(decide (x23>0)))) <|
 chk (((QI N r12.1 (i64.wrap (x23 - 1))).isSome)||(!(decide (x23>0)))) <|
 let r30:=(QI N r12.1 (i64.wrap (x23 - 1))).getD default
 chk ((decide (x23>0))||(!(decide (x23>0)))) <|
 chk (bif decide (x23>0)then decide (x23>0)else true) <|
 chk (bif decide (x23>0)then true else true) <|
 bif bif decide (x23>0)then !r30 else false then(some (0,7))
 else(bif decide (x23>16)then(some (0,1))
 else(Ap (X:=Int×Int) (Y:=Int) (U2 fun t8a t36a k1 x2 =>
 bif decide (t36a<x23)then(Ac (QI N r12.1 t36a) fun r41 =>
 bif r41 then(chk (decide (0<=IntKind.u64.wrap t36a)) <|
 let x45:Int:=i64.wrap ((1:Int)*(2 ^ (min (IntKind.u64.wrap t36a).toNat 64)))
 k1 (Ba .or .i64 t8a x45,i64.wrap (t36a+1)))
 else(k1 (t8a,i64.wrap (t36a+1))))
 else(x2 t8a))
 N (0,0) (fun t8b =>
 some (t8b,0)))))
def JF (N:Nat) (p0:Yq7):Option (Int×Yq7) :=
 bif decide ((p0.length:Int)>0)then(some (4,p0))
 else(some (0,p0))
def Gs (N:Nat) (p0:Yq7):Option (Yq2×Int×Yq7) :=
 Dz (α :=(List (Int×Bs×Bs))×List Yq1) (fun j1 =>
 Ac (D8 N p0 160) fun r20 =>
 bif r20.2.1 then(Ac (Q4 N r20.1.2.1 160) fun r27 =>
 bif (r27.2 != 0)then(some ((([]:List Yq1),0,false,([]:List Yq0)),r27.2,r20.2.2))
 else(Ac (Ec N r27.1.2.1) fun r37 =>
 bif (r37.2 != 0)then(some ((([]:List Yq1),0,false,([]:List Yq0)),r37.2,r20.2.2))
 else(j1 (r20.2.2,r37.1))))
 else(j1 (r20.2.2,([]:List Yq1))))
 (U2 fun b0_0a b34048_0a =>
 Dz (α :=(List (Int×Bs×Bs))×List Yq1×Int) (fun j2 =>
 Ac (D8 N b0_0a 129) fun r47 =>
 bif r47.2.1 then(Ac (Pz N r47.1.2.1) fun r54 =>
 bif (r54.2 != 0)then(some ((([]:List Yq1),0,false,([]:List Yq0)),r54.2,r47.2.2))
 else(bif (r54.1==0)then(some ((([]:List Yq1),0,false,([]:List Yq0)),7,r47.2.2))
 else(j2 (r47.2.2,b34048_0a,r54.1))))
 else(j2 (r47.2.2,b34048_0a,0)))
 (U3 fun b0_0b b34048_0b b34048_1b =>
 Dz (α :=(List (Int×Bs×Bs))×List Yq1×Int×Bool×List Yq0) (fun j3 =>
 Ac (D8 N b0_0b 162) fun r68 =>
 bif r68.2.1 then(Ac (Ec N r68.1.2.1) fun r75 =>
 bif (r75.2 != 0)then(some ((([]:List Yq1),0,false,([]:List Yq0)),r75.2,r68.2.2))
 else(chk ((!((r75.1.length:Int) != 1))||(!(!((r75.1.length:Int) != 1)))) <|
 chk ((decide (0<(r75.1.length:Int)))||(!(!((r75.1.length:Int) != 1)))) <|
 chk ((!((r75.1.length:Int) != 1))||(!(!((r75.1.length:Int) != 1)))) <|
 chk ((!((r75.1.length:Int) != 1))||(!(!((r75.1.length:Int) != 1)))) <|
 chk ((!((r75.1.length:Int) != 1))||(!(!((r75.1.length:Int) != 1)))) <|
 chk (bif ((r75.1.length:Int) != 1)then true else !((r75.1.length:Int) != 1)) <|
 chk (bif ((r75.1.length:Int) != 1)then true else true) <|
 let x91:Bool:=bif ((r75.1.length:Int) != 1)then true else(((r75.1.getD 0 (0,([]:Bs),([]:List Yq0))).1) != 4)
 bif x91 then(some ((([]:List Yq1),0,false,([]:List Yq0)),7,r68.2.2))
 else(chk (decide (0<(r75.1.length:Int))) <|
 j3 (r68.2.2,b34048_0b,b34048_1b,true,(r75.1.getD 0 (0,([]:Bs),([]:List Yq0))).2.2))))
 else(j3 (r68.2.2,b34048_0b,b34048_1b,false,([]:List Yq0))))
 (U5 fun b0_0c b34048_0c b34048_1c b34048_2c b34048_3c =>
 Ac (JF N b0_0c) fun r100 =>
 bif (r100.1 != 0)then(some ((([]:List Yq1),0,false,([]:List Yq0)),r100.1,r100.2))
 else(some ((b34048_0c,b34048_1c,b34048_2c,b34048_3c),0,r100.2)))))
def Ep (N:Nat) (p0:Bs):Option (List Yq2×Int) :=
 mJ (Zh N p0 48) (fun r13 =>
 bif (r13.2 != 0)then(some (([]:List Yq2),r13.2))
 else(Ac (JG N r13.1) fun r20 =>
 bif (r20.1==0)then(some (([]:List Yq2),7))
 else(Ap (X:=(List (Int×Bs×Bs))×List Yq2) (Y:=(List Yq2)) (U2 fun b36096_0a l1000000a k1 x2 =>
 Ac (JG N b36096_0a) fun r23 =>
 bif decide (r23.1>0)then(mJ (Ia N r23.2) (fun r27 =>
 bif (r27.2.1 != 0)then(some (([]:List Yq2),r27.2.1))
 else(Ac (Gs N r27.1) fun r35 =>
 bif (r35.2.1 != 0)then(some (([]:List Yq2),r35.2.1))
 else(chk (decide ((l1000000a.length+1)*65<=140737488355328)) <|
 k1 (r27.2.2,l1000000a++([r35.1]:List Yq2)))))
 (fun r27 =>
 bif (r27.2.1 != 0)then(some (([]:List Yq2),r27.2.1))
 else(none)))
 else(x2 l1000000a))
 N (r20.2,([]:List Yq2)) (fun l1004096b =>
 Ac (BN N l1004096b) fun r46 =>
 bif (r46 != 0)then(some (([]:List Yq2),r46))
 else(some (l1004096b,0))))))
 (fun r13 =>
 bif (r13.2 != 0)then(some (([]:List Yq2),r13.2))
 else(none))
def FI (N:Nat) (p0:Int×Bs×Bs) (p1:Int):Option (Yq8×Int) :=
 bif (p0.1 != p1)then(some ((([]:List (Int×Bs×Bs)),0),5))
 else(Ac (Lu N p0.2.1) fun r16 =>
 some ((r16.1,0),r16.2))
def MZ (N:Nat) (p0:Bs) (p1:Int):Option ((Int×Bs×Bs)×Int) :=
 Ac (Ou N p0) fun r10 =>
 bif (r10.2 != 0)then(some ((0,([]:Bs),([]:Bs)),r10.2))
 else(bif (r10.1.1 != p1)then(some ((0,([]:Bs),([]:Bs)),5))
 else(some (r10.1,0)))
def Uf (N:Nat) (p0:Bs):Option (Yq8×Int) :=
 Ac (MZ N p0 48) fun r8 =>
 bif (r8.2 != 0)then(some ((([]:List (Int×Bs×Bs)),0),r8.2))
 else(Ac (FI N r8.1 48) fun r16 =>
 some (r16.1,r16.2))
def D6 (N:Nat) (p0:Yq8) (p1:Int):Option ((Int×Bs×Bs)×Bool×Yq8) :=
 chk ((!(decide (p0.2>=(p0.1.length:Int))))||(!(!(decide (p0.2>=(p0.1.length:Int)))))) <|
 chk ((!(decide (p0.2>=(p0.1.length:Int))))||(!(!(decide (p0.2>=(p0.1.length:Int)))))) <|
 chk ((!(decide (p0.2>=(p0.1.length:Int))))||(!(!(decide (p0.2>=(p0.1.length:Int)))))) <|
 chk ((!(decide (p0.2>=(p0.1.length:Int))))||(!(!(decide (p0.2>=(p0.1.length:Int)))))) <|
 chk ((!(decide (p0.2>=(p0.1.length:Int))))||(!(!(decide (p0.2>=(p0.1.length:Int)))))) <|
 chk ((!(decide (p0.2>=(p0.1.length:Int))))||(!(!(decide (p0.2>=(p0.1.length:Int)))))) <|
 chk ((!(decide (p0.2>=(p0.1.length:Int))))||(!(!(decide (p0.2>=(p0.1.length:Int)))))) <|
 chk ((!(decide (p0.2>=(p0.1.length:Int))))||(!(!(decide (p0.2>=(p0.1.length:Int)))))) <|
 chk ((decide (0<=p0.2))||(!(!(decide (p0.2>=(p0.1.length:Int)))))) <|
 chk ((decide (p0.2<(p0.1.length:Int)))||(!(!(decide (p0.2>=(p0.1.length:Int)))))) <|
 chk ((!(decide (p0.2>=(p0.1.length:Int))))||(!(!(decide (p0.2>=(p0.1.length:Int)))))) <|
 chk ((!(decide (p0.2>=(p0.1.length:Int))))||(!(!(decide (p0.2>=(p0.1.length:Int)))))) <|
 chk ((!(decide (p0.2>=(p0.1.length:Int))))||(!(!(decide (p0.2>=(p0.1.length:Int)))))) <|
 chk ((!(decide (p0.2>=(p0.1.length:Int))))||(!(!(decide (p0.2>=(p0.1.length:Int)))))) <|
 chk (bif decide (p0.2>=(p0.1.length:Int))then true else !(decide (p0.2>=(p0.1.length:Int)))) <|
 chk (bif decide (p0.2>=(p0.1.length:Int))then true else true) <|
 let x30:Bool:=bif decide (p0.2>=(p0.1.length:Int))then true else(((p0.1.getD p0.2.toNat (0,([]:Bs),([]:Bs))).1) != p1)
 bif x30 then(some ((0,([]:Bs),([]:Bs)),false,p0))
 else(chk (decide (0<=i64.wrap ((i64.wrap (p0.2+1)) - 1))) <|
 chk (decide (i64.wrap ((i64.wrap (p0.2+1)) - 1)<(p0.1.length:Int))) <|
 some ((p0.1.getD ((i64.wrap ((i64.wrap (p0.2+1)) - 1)).toNat) (0,([]:Bs),([]:Bs))),true,(p0.1,i64.wrap (p0.2+1))))
def JJ (N:Nat) (p0:Yq7):Option Bool :=
 Ap (X:=Int) (Y:=Unit) (fun t3a k1 x2 =>
 bif decide (t3a<(p0.length:Int))then(chk (decide (0<=t3a)) <|
 chk (decide (t3a<(p0.length:Int))) <|
 chk (decide (0<=i64.wrap (t3a - 1))) <|
 chk (decide (i64.wrap (t3a - 1)<(p0.length:Int))) <|
 let x20:Bs:=(p0.getD ((i64.wrap (t3a - 1)).toNat) (0,([]:Bs),([]:Bs))).2.2
 bif bytesLess ((p0.getD t3a.toNat (0,([]:Bs),([]:Bs))).2.2) x20 then(some false)
 else(k1 (i64.wrap (t3a+1))))
 else(x2 ()))
 N 1 (fun _ =>
 some true)
def BR (N:Nat) (p0:Yq8):Option (Int×Yq8) :=
 bif decide (p0.2<(p0.1.length:Int))then(some (4,p0))
 else(some (0,p0))
def JK (N:Nat) (p0:Bs):Option (Bs×Int) :=
 Ap (X:=Bs×Int×Bool×Int×Int) (Y:=(Bs×Bool)) (U5 fun t4a t5a t6a t7a t8a k1 x2 =>
 bif decide (t8a<(p0.length:Int))then(chk (!t6a|| !!t6a) <|
 chk (!t6a|| !!t6a) <|
 chk ((decide (0<=t8a))||(!!t6a)) <|
 chk ((decide (t8a<(p0.length:Int)))||(!!t6a)) <|
 chk (!t6a|| !!t6a) <|
 chk (bif !t6a then !t6a else true) <|
 chk (bif !t6a then true else true) <|
 let x23:Bool:=bif !t6a then(((p0.getD t8a.toNat 0).toNat:Int)==128)else false
 bif x23 then(some (([]:Bs),11))
 else(chk (decide (0<=t8a)) <|
 chk (decide (t8a<(p0.length:Int))) <|
 let x31:Int:=i64.wrap ((i64.wrap ((128:Int)*t5a))+(i64.wrap (((p0.getD t8a.toNat 0).toNat:Int).tmod 128)))
 bif decide (x31>2147483727)then(some (([]:Bs),11))
 else(chk (decide (0<=t8a)) <|
 chk (decide (t8a<(p0.length:Int))) <|
 bif decide (((p0.getD t8a.toNat 0).toNat:Int)>=128)then(k1 (t4a,x31,decide (((p0.getD t8a.toNat 0).toNat:Int)>=128),t7a,i64.wrap (t8a+1)))
 else(Dz (α :=Bs×Int) (fun j3 =>
 bif (t7a==0)then(let x43:Int:=(bif decide (2<i64.wrap (x31.tdiv 40))then(2:Int)else i64.wrap (x31.tdiv 40))
 Ac (FT N N x43) fun r45 =>
 chk (decide (r45.length+1<=140737488355328)) <|
 Ac (FT N N (i64.wrap (x31 - (i64.wrap ((40:Int)*x43))))) fun r51 =>
 chk (decide ((r45++([46]:Bs)).length+r51.length<=140737488355328)) <|
 j3 ((r45++([46]:Bs))++r51,1))
 else(Ac (FT N N x31) fun r55 =>
 chk (decide (1+r55.length<=140737488355328)) <|
 chk (decide (t4a.length+(([46]:Bs)++r55).length<=140737488355328)) <|
 j3 (t4a++(([46]:Bs)++r55),t7a)))
 (U2 fun t4b t7b =>
 bif decide ((i64.wrap (t7b+1))>12)then(some (([]:Bs),11))
 else(k1 (t4b,0,decide (((p0.getD t8a.toNat 0).toNat:Int)>=128),i64.wrap (t7b+1),i64.wrap (t8a+1))))))))
 else(x2 (t4a,t6a)))
 N (([]:Bs),0,false,0,0) (U2 fun t4c t6c =>
 chk (bif ((p0.length:Int)==0)then true else !((p0.length:Int)==0)) <|
 chk (bif ((p0.length:Int)==0)then true else true) <|
 chk ((!(bif ((p0.length:Int)==0)then true else t6c))||(!(!(bif ((p0.length:Int)==0)then true else t6c)))) <|
 chk (((Du N t4c).isSome)||(!(!(bif ((p0.length:Int)==0)then true else t6c)))) <|
 let r70:=(Du N t4c).getD default
 chk ((!(bif ((p0.length:Int)==0)then true else t6c))||(!(!(bif ((p0.length:Int)==0)then true else t6c)))) <|
 chk (bif bif ((p0.length:Int)==0)then true else t6c then true else !(bif ((p0.length:Int)==0)then true else t6c)) <|
 chk (bif bif ((p0.length:Int)==0)then true else t6c then true else true) <|
 let x72:Bool:=bif bif ((p0.length:Int)==0)then true else t6c then true else !r70
 bif x72 then(some (([]:Bs),11))
 else(some (t4c,0)))
def DK (N:Nat) (p0:Yq8) (p1:Int):Option ((Int×Bs×Bs)×Int×Yq8) :=
 bif decide (p0.2>=(p0.1.length:Int))then(some ((0,([]:Bs),([]:Bs)),3,p0))
 else(chk (decide (0<=p0.2)) <|
 chk (decide (p0.2<(p0.1.length:Int))) <|
 chk ((decide (p1>=0))||(!(decide (p1>=0)))) <|
 chk ((decide (p1>=0))||(!(decide (p1>=0)))) <|
 chk ((decide (p1>=0))||(!(decide (p1>=0)))) <|
 chk (bif decide (p1>=0)then decide (p1>=0)else true) <|
 chk (bif decide (p1>=0)then true else true) <|
 let x35:Bool:=bif decide (p1>=0)then(((p0.1.getD p0.2.toNat (0,([]:Bs),([]:Bs))).1) != p1)else false
 bif x35 then(some ((0,([]:Bs),([]:Bs)),5,p0))
 else(some ((p0.1.getD p0.2.toNat (0,([]:Bs),([]:Bs))),0,(p0.1,i64.wrap (p0.2+1)))))
def JO (N:Nat) (p0:Int×Bs×Bs):Option ((Bs×Int×Bs)×Int) :=
 Ac (FI N p0 48) fun r14 =>
 bif (r14.2 != 0)then(some ((([]:Bs),0,([]:Bs)),r14.2))
 else(Ac (DK N r14.1 6) fun r22 =>
 bif (r22.2.1 != 0)then(some ((([]:Bs),0,([]:Bs)),r22.2.1))
 else(Ac (JK N r22.1.2.1) fun r32 =>
 bif (r32.2 != 0)then(some ((([]:Bs),0,([]:Bs)),r32.2))
 else(Ac (DK N r22.2.2 (-1)) fun r40 =>
 bif (r40.2.1 != 0)then(some ((([]:Bs),0,([]:Bs)),r40.2.1))
 else(chk ((r40.1.1 != 12)||(!(r40.1.1 != 12))) <|
 chk ((r40.1.1 != 12)||(!(r40.1.1 != 12))) <|
 chk (bif (r40.1.1 != 12)then(r40.1.1 != 12)else true) <|
 chk (bif (r40.1.1 != 12)then true else true) <|
 chk ((bif (r40.1.1 != 12)then(r40.1.1 != 19)else false)||(!(bif (r40.1.1 != 12)then(r40.1.1 != 19)else false))) <|
 chk ((bif (r40.1.1 != 12)then(r40.1.1 != 19)else false)||(!(bif (r40.1.1 != 12)then(r40.1.1 != 19)else false))) <|
 chk (bif bif (r40.1.1 != 12)then(r40.1.1 != 19)else false then bif (r40.1.1 != 12)then(r40.1.1 != 19)else false else true) <|
 chk (bif bif (r40.1.1 != 12)then(r40.1.1 != 19)else false then true else true) <|
 let x59:Bool:=bif bif (r40.1.1 != 12)then(r40.1.1 != 19)else false then(r40.1.1 != 22)else false
 bif x59 then(some ((([]:Bs),0,([]:Bs)),5))
 else(Ac (BR N r40.2.2) fun r61 =>
 bif (r61.1 != 0)then(some ((([]:Bs),0,([]:Bs)),r61.1))
 else(some ((r32.1,r40.1.1,r40.1.2.1),0)))))))
def IL (N:Nat) (p0:Bs):Option (List Yq0×Int) :=
 Ac (Ou N p0) fun r22 =>
 bif (r22.2 != 0)then(some (([]:List Yq0),r22.2))
 else(Ac (FI N r22.1 48) fun r31 =>
 bif (r31.2 != 0)then(some (([]:List Yq0),r31.2))
 else(Ap (X:=Int×List Yq0) (Y:=(List Yq0)) (U2 fun t42a l1000000a k1 x2 =>
 bif decide (t42a<(r31.1.1.length:Int))then(chk (decide (0<=t42a)) <|
 chk (decide (t42a<(r31.1.1.length:Int))) <|
 Ac (FI N (r31.1.1.getD t42a.toNat (0,([]:Bs),([]:Bs))) 49) fun r48 =>
 bif (r48.2 != 0)then(some (([]:List Yq0),r48.2))
 else(Ac (JJ N r48.1.1) fun r57 =>
 bif !r57 then(some (([]:List Yq0),9))
 else(Ap (X:=Int×(List (Bs×Int×Bs))×List Yq0) (Y:=((List (Bs×Int×Bs))×List Yq0)) (U3 fun t63b l1004096b l1004112b k3 x4 =>
 bif decide (t63b<(r48.1.1.length:Int))then(chk (decide (0<=t63b)) <|
 chk (decide (t63b<(r48.1.1.length:Int))) <|
 Ac (JO N (r48.1.1.getD t63b.toNat (0,([]:Bs),([]:Bs)))) fun r69 =>
 bif (r69.2 != 0)then(some (([]:List Yq0),r69.2))
 else(chk (decide ((l1004096b.length+1)*41<=140737488355328)) <|
 k3 (i64.wrap (t63b+1),l1004096b++([r69.1]:List (Bs×Int×Bs)),l1004112b)))
 else(x4 (l1004096b,l1004112b)))
 N (0,([]:List (Bs×Int×Bs)),l1000000a) (U2 fun l1008192c l1008208c =>
 chk (decide ((l1008208c.length+1)*25<=140737488355328)) <|
 k1 (i64.wrap (t42a+1),l1008208c++([l1008192c]:List Yq0))))))
 else(x2 l1000000a))
 N (0,([]:List Yq0)) (fun l1012288d =>
 Ac (Dx N l1012288d) fun r89 =>
 bif (r89 != 0)then(some (([]:List Yq0),r89))
 else(some (l1012288d,0)))))
def Gu (N:Nat) (p0:Int×Bs×Bs) (p1:Bool):Option (Yq1×Int) :=
 Dz (α :=Int×Bs×List Yq0) (fun j1 =>
 Dz (α :=Bool×Int×Bs×Bs) (fun j2 =>
 bif (p0.1==129)then(j2 ((p0.1==129),p0.1,p0.2.1,p0.2.2))
 else(bif (p0.1==130)then(j2 ((p0.1==130),p0.1,p0.2.1,p0.2.2))
 else(j2 ((p0.1==135),p0.1,p0.2.1,p0.2.2))))
 (U4 fun t14b b33280_0b b33280_1b b33280_2b =>
 bif t14b then(j1 (i64.wrap (b33280_0b - 128),b33280_1b,([]:List Yq0)))
 else(bif (p0.1==164)then(Ac (IL N b33280_1b) fun r29 =>
 bif (r29.2 != 0)then(some ((0,([]:Bs),([]:List Yq0)),r29.2))
 else(j1 (4,([]:Bs),r29.1)))
 else(some ((0,([]:Bs),([]:List Yq0)),5)))))
 (U3 fun b34304_0a b34304_1a b34304_2a =>
 Ac (D5 N (b34304_0a,b34304_1a,b34304_2a) p1) fun r40 =>
 bif (r40 != 0)then(some ((0,([]:Bs),([]:List Yq0)),r40))
 else(some ((b34304_0a,b34304_1a,b34304_2a),0)))
def Gm (N:Nat) (p0:Bs):Option (List Yq1×Int) :=
 Ac (Lu N p0) fun r13 =>
 bif (r13.2 != 0)then(some (([]:List Yq1),r13.2))
 else(bif ((r13.1.length:Int)==0)then(some (([]:List Yq1),7))
 else(bif decide ((r13.1.length:Int)>16)then(some (([]:List Yq1),2))
 else(Ap (X:=Int×List Yq1) (Y:=(List Yq1)) (U2 fun t27a l1000000a k1 x2 =>
 bif decide (t27a<(r13.1.length:Int))then(chk (decide (0<=t27a)) <|
 chk (decide (t27a<(r13.1.length:Int))) <|
 Ac (Gu N (r13.1.getD t27a.toNat (0,([]:Bs),([]:Bs))) false) fun r33 =>
 bif (r33.2 != 0)then(some (([]:List Yq1),r33.2))
 else(chk (decide ((l1000000a.length+1)*49<=140737488355328)) <|
 k1 (i64.wrap (t27a+1),l1000000a++([r33.1]:List Yq1))))
 else(x2 l1000000a))
 N (0,([]:List Yq1)) (fun l1004096b =>
 some (l1004096b,0)))))
def EE (N:Nat) (p0:Yq8):Option (List Yq1×Int×Yq8) :=
 Ac (D6 N p0 160) fun r10 =>
 bif !r10.2.1 then(some (([]:List Yq1),0,r10.2.2))
 else(Ac (MZ N r10.1.2.1 160) fun r18 =>
 bif (r18.2 != 0)then(some (([]:List Yq1),r18.2,r10.2.2))
 else(Ac (Gm N r18.1.2.1) fun r26 =>
 some (r26.1,r26.2,r10.2.2)))
def Ud (N:Nat) (p0:Bs):Option (Bs×Int×Int) :=
 Ah ((p0.length:Int)==0) fun b1 =>
 chk (!b1|| !!b1) <|
 chk ((decide (0<(p0.length:Int)))||(!!b1)) <|
 chk (!b1|| !!b1) <|
 chk (bif b1 then true else !b1) <|
 chk (bif b1 then true else true) <|
 Ah (bif b1 then true else decide (((p0.getD 0 0).toNat:Int)>7)) fun b2 =>
 Ah (b2) fun b3 =>
 chk (!b3|| !!b3) <|
 chk ((decide (0<(p0.length:Int)))||(!!b3)) <|
 chk (!b3|| !!b3) <|
 chk (!b3|| !!b3) <|
 Ah (decide (((p0.getD 0 0).toNat:Int)>0)) fun b4 =>
 chk (((!b3)&&b4)||(!((!b3)&&b4))) <|
 chk (((!b3)&&b4)||(!((!b3)&&b4))) <|
 chk (((!b3)&&b4)||(!((!b3)&&b4))) <|
 Ah ((p0.length:Int)==1) fun b5 =>
 chk ((((!b3)&&b4)&&(!b5))||(!(((!b3)&&b4)&&(!b5)))) <|
 chk ((((!b3)&&b4)&&(!b5))||(!(((!b3)&&b4)&&(!b5)))) <|
 chk ((((!b3)&&b4)&&(!b5))||(!(((!b3)&&b4)&&(!b5)))) <|
 chk ((((!b3)&&b4)&&(!b5))||(!(((!b3)&&b4)&&(!b5)))) <|
 chk ((decide (0<=i64.wrap ((p0.length:Int) - 1)))||(!(((!b3)&&b4)&&(!b5)))) <|
 chk ((decide (i64.wrap ((p0.length:Int) - 1)<(p0.length:Int)))||(!(((!b3)&&b4)&&(!b5)))) <|
 let x26:Int:=((p0.getD ((i64.wrap ((p0.length:Int) - 1)).toNat) 0).toNat:Int)
 chk ((((!b3)&&b4)&&(!b5))||(!(((!b3)&&b4)&&(!b5)))) <|
 chk ((((!b3)&&b4)&&(!b5))||(!(((!b3)&&b4)&&(!b5)))) <|
 chk ((decide (0<(p0.length:Int)))||(!(((!b3)&&b4)&&(!b5)))) <|
 chk ((((!b3)&&b4)&&(!b5))||(!(((!b3)&&b4)&&(!b5)))) <|
 chk ((decide (0<=((p0.getD 0 0).toNat:Int)))||(!(((!b3)&&b4)&&(!b5)))) <|
 let x30:Int:=i64.wrap ((1:Int)*(2 ^ (min ((p0.getD 0 0).toNat:Int).toNat 64)))
 chk ((((!b3)&&b4)&&(!b5))||(!(((!b3)&&b4)&&(!b5)))) <|
 chk ((((!b3)&&b4)&&(!b5))||(!(((!b3)&&b4)&&(!b5)))) <|
 chk ((x30 != 0)||(!(((!b3)&&b4)&&(!b5)))) <|
 chk ((((!b3)&&b4)&&(!b5))||(!(((!b3)&&b4)&&(!b5)))) <|
 chk (((!b3)&&b4)||(!((!b3)&&b4))) <|
 chk ((bif b5 then true else(((!b3)&&b4)&&(!b5)))||(!((!b3)&&b4))) <|
 chk ((bif b5 then true else true)||(!((!b3)&&b4))) <|
 Ah (bif b5 then true else(((i64.wrap x26).tmod x30) != 0)) fun b6 =>
 chk (!b3|| !!b3) <|
 chk ((bif b4 then((!b3)&&b4)else true)||(!!b3)) <|
 chk ((bif b4 then true else true)||(!!b3)) <|
 Ah (bif b4 then b6 else false) fun b7 =>
 chk (bif b3 then true else !b3) <|
 chk (bif b3 then true else true) <|
 Ah (bif b3 then true else b7) fun b8 =>
 bif b8 then(some (([]:Bs),0,7))
 else(chk (decide (1<=(p0.length:Int))) <|
 chk (decide (0<(p0.length:Int))) <|
 some (Ar p0 1 p0.length,i64.wrap ((p0.getD 0 0).toNat:Int),0))
def QZ (N:Nat) (p0:Bs):Option (Int×Int) :=
 Ac (Ud N p0) fun r12 =>
 bif (r12.2.2 != 0)then(some (0,r12.2.2))
 else(let x23:Int:=i64.wrap ((i64.wrap ((8:Int)*(r12.1.length:Int))) - r12.2.1)
 chk ((decide (x23>0))||(!(decide (x23>0)))) <|
 chk ((decide (x23>0))||(!(decide (x23>0)))) <|
 chk ((decide (x23>0))||(!(decide (x23>0)))) <|
 chk ((decide (x23>0))||(!(decide (x23>0)))) <|
 chk ((decide (0<=i64.wrap ((r12.1.length:Int) - 1)))||(!(decide (x23>0)))) <|
 chk ((decide (i64.wrap ((r12.1.length:Int) - 1)<(r12.1.length:Int)))||(!(decide (x23>0)))) <|
 let x31:Int:=((r12.1.getD ((i64.wrap ((r12.1.length:Int) - 1)).toNat) 0).toNat:Int)
 chk ((decide (x23>0))||(!(decide (x23>0)))) <|
 chk ((decide (x23>0))||(!(decide (x23>0)))) <|
 chk ((decide (0<=r12.2.1))||(!(decide (x23>0)))) <|
 chk ((decide (x23>0))||(!(decide (x23>0)))) <|
 chk ((decide (x23>0))||(!(decide (x23>0)))) <|
 chk (bif decide (x23>0)then decide (x23>0)else true) <|
 chk (bif decide (x23>0)then true else true) <|
 let x36:Bool:=bif decide (x23>0)then(((x31.fdiv (2 ^ (min r12.2.1.toNat 8))).tmod 2)==0)else false
 bif x36 then(some (0,7))
 else(bif decide (x23>16)then(some (0,1))
 else(Ap (X:=Int×Int) (Y:=Int) (U2 fun t8a t9a k1 x2 =>
 bif decide (t9a<x23)then(chk (decide (0<=i64.wrap (t9a.tdiv 8))) <|
 chk (decide (i64.wrap (t9a.tdiv 8)<(r12.1.length:Int))) <|
 chk (decide (0<=i64.wrap ((7:Int) - (t9a.tmod 8)))) <|
 let x51:Int:=((r12.1.getD ((i64.wrap (t9a.tdiv 8)).toNat) 0).toNat:Int).fdiv (2 ^ (min (i64.wrap ((7:Int) - (t9a.tmod 8))).toNat 8))
 bif ((x51.tmod 2)==1)then(chk (decide (0<=t9a)) <|
 let x57:Int:=Ba .or .i64 t8a (i64.wrap ((1:Int)*(2 ^ (min t9a.toNat 64))))
 k1 (x57,i64.wrap (t9a+1)))
 else(k1 (t8a,i64.wrap (t9a+1))))
 else(x2 t8a))
 N (0,0) (fun t8b =>
 some (t8b,0)))))
def Ue (N:Nat) (p0:Bs):Option (Int×Int) :=
 Ac (QZ N p0) fun r8 =>
 bif (r8.2 != 0)then(some (0,r8.2))
 else(bif (r8.1==0)then(some (0,7))
 else(some (r8.1,0)))
def Fb (N:Nat) (p0:Yq8) (p1:Int):Option (Int×Int×Yq8) :=
 Ac (D6 N p0 p1) fun r11 =>
 bif !r11.2.1 then(some (0,0,r11.2.2))
 else(Ac (Ue N r11.1.2.1) fun r18 =>
 some (r18.1,r18.2,r11.2.2))
def Eh (N:Nat) (p0:Bs):Option (List Yq0×Int) :=
 Ac (Gm N p0) fun r8 =>
 bif (r8.2 != 0)then(some (([]:List Yq0),r8.2))
 else(chk ((!((r8.1.length:Int) != 1))||(!(!((r8.1.length:Int) != 1)))) <|
 chk ((decide (0<(r8.1.length:Int)))||(!(!((r8.1.length:Int) != 1)))) <|
 chk ((!((r8.1.length:Int) != 1))||(!(!((r8.1.length:Int) != 1)))) <|
 chk ((!((r8.1.length:Int) != 1))||(!(!((r8.1.length:Int) != 1)))) <|
 chk ((!((r8.1.length:Int) != 1))||(!(!((r8.1.length:Int) != 1)))) <|
 chk (bif ((r8.1.length:Int) != 1)then true else !((r8.1.length:Int) != 1)) <|
 chk (bif ((r8.1.length:Int) != 1)then true else true) <|
 let x24:Bool:=bif ((r8.1.length:Int) != 1)then true else(((r8.1.getD 0 (0,([]:Bs),([]:List Yq0))).1) != 4)
 bif x24 then(some (([]:List Yq0),7))
 else(chk (decide (0<(r8.1.length:Int))) <|
 some ((r8.1.getD 0 (0,([]:Bs),([]:List Yq0))).2.2,0)))
def Fa (N:Nat) (p0:Bs):Option (List Yq2×Int) :=
 Ac (Uf N p0) fun r18 =>
 bif (r18.2 != 0)then(some (([]:List Yq2),r18.2))
 else(bif ((r18.1.1.length:Int)==0)then(some (([]:List Yq2),7))
 else(Ap (X:=Int×List Yq2) (Y:=(List Yq2)) (U2 fun t31a l1000000a k1 x2 =>
 bif decide (t31a<(r18.1.1.length:Int))then(chk (decide (0<=t31a)) <|
 chk (decide (t31a<(r18.1.1.length:Int))) <|
 Ac (FI N (r18.1.1.getD t31a.toNat (0,([]:Bs),([]:Bs))) 48) fun r37 =>
 bif (r37.2 != 0)then(some (([]:List Yq2),r37.2))
 else(Ac (EE N r37.1) fun r45 =>
 bif (r45.2.1 != 0)then(some (([]:List Yq2),r45.2.1))
 else(Ac (Fb N r45.2.2 129) fun r53 =>
 bif (r53.2.1 != 0)then(some (([]:List Yq2),r53.2.1))
 else(Dz (α :=(List (Int×Bs×Bs))×Int×List Yq1×Int×Bool×List Yq0×List Yq2) (fun j3 =>
 Ac (D6 N r53.2.2 162) fun r61 =>
 bif r61.2.1 then(Ac (Eh N r61.1.2.1) fun r69 =>
 bif (r69.2 != 0)then(some (([]:List Yq2),r69.2))
 else(j3 (r61.2.2.1,r61.2.2.2,r45.1,r53.1,true,r69.1,l1000000a)))
 else(j3 (r61.2.2.1,r61.2.2.2,r45.1,r53.1,false,([]:List Yq0),l1000000a)))
 (U7 fun b35072_0b b35072_1b b35584_0b b35584_1b b35584_2b b35584_3b l1004096b =>
 Ac (BR N (b35072_0b,b35072_1b)) fun r76 =>
 bif (r76.1 != 0)then(some (([]:List Yq2),r76.1))
 else(chk (decide ((l1004096b.length+1)*65<=140737488355328)) <|
 let y54016:List Yq2:=l1004096b++([(b35584_0b,b35584_1b,b35584_2b,b35584_3b)]:List Yq2)
 k1 (i64.wrap (t31a+1),y54016)))))))
 else(x2 l1000000a))
 N (0,([]:List Yq2)) (fun l1008192c =>
 Ac (CU N l1008192c) fun r86 =>
 bif (r86 != 0)then(some (([]:List Yq2),r86))
 else(some (l1008192c,0)))))
def ED (N:Nat) (p0:List Yq2) (p1:Bs) (p2:List Int):Option Bool :=
 Ac (II N p0) fun r24 =>
 chk ((!!r24)||(!(!!r24))) <|
 chk ((!!r24)||(!(!!r24))) <|
 chk (bif !r24 then true else !(!r24)) <|
 chk (bif !r24 then true else true) <|
 bif bif !r24 then true else decide ((p1.length:Int)>300)then(Ac (MP N) fun r31 =>
 some r31)
 else(Ac (tH N p2) fun r33 =>
 Ac (Nk N r33 (false,false,0,0,([]:List Bs),([]:List Bs),([]:List (Bs×Bs)),0,0,0,([]:List Yq1),false,([]:List Yq1),([]:List Yq1),([]:Bs),([]:Bs),p0,([]:List Yq2),([]:List (Bs×Bool×Bs)))) fun r37 =>
 Ap (X:=Int×List Int×Int×List (List Yq2)) (Y:=(List Int×Int)) (U4 fun t43a b41216_0a b41216_1a l43264a k1 x2 =>
 bif decide (t43a<2)then(chk (decide (0<=t43a)) <|
 chk (decide (t43a<(l43264a.length:Int))) <|
 chk (decide (t43a.toNat<l43264a.length)) <|
 Ac (Dj N (l43264a.getD t43a.toNat ([]:List Yq2))) fun r49 =>
 Ac (Eg N (l43264a.getD t43a.toNat ([]:List Yq2))) fun r54 =>
 Ac (BN N (l43264a.getD t43a.toNat ([]:List Yq2))) fun r58 =>
 Ac (CU N (l43264a.getD t43a.toNat ([]:List Yq2))) fun r60 =>
 chk ((!(r58 != r60))||(!(!(r58 != r60)))) <|
 chk ((!(r58 != r60))||(!(!(r58 != r60)))) <|
 chk (bif (r58 != r60)then true else !(r58 != r60)) <|
 chk (bif (r58 != r60)then true else true) <|
 chk ((!(bif (r58 != r60)then true else !(r49.1==r54.1)))||(!(!(bif (r58 != r60)then true else !(r49.1==r54.1))))) <|
 chk ((!(bif (r58 != r60)then true else !(r49.1==r54.1)))||(!(!(bif (r58 != r60)then true else !(r49.1==r54.1))))) <|
 chk (bif bif (r58 != r60)then true else !(r49.1==r54.1)then true else !(bif (r58 != r60)then true else !(r49.1==r54.1))) <|
 chk (bif bif (r58 != r60)then true else !(r49.1==r54.1)then true else true) <|
 let x71:Bool:=bif bif (r58 != r60)then true else !(r49.1==r54.1)then true else(r49.2 != r54.2)
 bif x71 then(some false)
 else(k1 (i64.wrap (t43a+1),b41216_0a,b41216_1a,l43264a)))
 else(x2 (b41216_0a,b41216_1a)))
 N (0,r37.2.1,r37.2.2,([p0,r37.1.2.2.2.2.2.2.2.2.2.2.2.2.2.2.2.2.1]:List (List Yq2))) (U2 fun b41216_0b b41216_1b =>
 Ac (Eg N r37.1.2.2.2.2.2.2.2.2.2.2.2.2.2.2.2.2.1) fun r75 =>
 Ac (MQ N (b41216_0b,b41216_1b) r75.1) fun r82 =>
 Ac (Jw N N r82.2 r75.1) fun r85 =>
 Ac (Jw N N r85.2 r75.1) fun r88 =>
 Ap (X:=Int×List Bs) (Y:=Unit) (U2 fun t91c l55552c k3 x4 =>
 bif decide (t91c<5)then(chk (decide (0<=t91c)) <|
 chk (decide (t91c<(l55552c.length:Int))) <|
 chk (decide (t91c.toNat<l55552c.length)) <|
 Ac (Ep N (l55552c.getD t91c.toNat ([]:Bs))) fun r97 =>
 Ac (Fa N (l55552c.getD t91c.toNat ([]:Bs))) fun r102 =>
 Ac (Fv N r97.1 r102.1) fun r107 =>
 chk ((!!r107)||(!(!!r107))) <|
 chk ((!!r107)||(!(!!r107))) <|
 chk (bif !r107 then true else !(!r107)) <|
 chk (bif !r107 then true else true) <|
 bif bif !r107 then true else(r97.2 != r102.2)then(some false)
 else(k3 (i64.wrap (t91c+1),l55552c)))
 else(x4 ()))
 N (0,([p1,r75.1,r82.1,r85.1,r88.1]:List Bs)) (fun _ =>
 Ac (MP N) fun r115 =>
 some r115)))
