import Derived.Test.YtadefjgbcapakaaGreatDoorA12
set_option linter.all false
namespace Go.Proofs.YtadefjgbcapakaaGreatDoor.Vm
open IntKind (i64)
open Go.Proofs
abbrev Yq0:Type:=List (Bs×Int×Bs)
abbrev Yq1:Type:=Int×Bs×List Yq0
abbrev Yq2:Type:=List Yq1×Int×Bool×List Yq0
abbrev Yq3:Type:=List (Bs×Bool×Bs)
abbrev Yq4:Type:=Bool×Bool×Int×Int×List Bs×List Bs×(List (Bs×Bs))×Int×Int×Int×List Yq1×Bool×List Yq1×List Yq1×Bs×Bs×List Yq2×List Yq2×List (Bs×Bool×Bs)
abbrev Yq5:Type:=Bs×Int×Nat×Nat×Nat
abbrev Yq6:Type:=List Yq1×List Yq1
abbrev Yq7:Type:=List (Int×Bs×Bs)
abbrev AjG:Type:=Int
def XR (N:Nat) (b:Bs):Option AjG :=
 Au (b==([]:Bs)) fun d =>
 chk (!d||(!!d)) <|
 chk (!d||(!!d)) <|
 chk (bif d then true else !d) <|
 chk (bif d then true else true) <|
 Au (bif d then true else decide ((b.length:Int)>10)) fun k =>
 Au (k) fun c =>
 chk (!c||(!!c)) <|
 chk ((decide (0<(b.length:Int)))||(!!c)) <|
 chk (!c||(!!c)) <|
 chk (!c||(!!c)) <|
 Au (((b.getD 0 0).toNat:Int)==48) fun e =>
 chk ((!c&&e)||(!(!c&&e))) <|
 chk ((!c&&e)||(!(!c&&e))) <|
 chk (!c||(!!c)) <|
 chk ((bif e then(!c&&e)else true)||(!!c)) <|
 chk ((bif e then true else true)||(!!c)) <|
 Au (bif e then decide ((b.length:Int)>1)else false) fun l =>
 chk (bif c then true else !c) <|
 chk (bif c then true else true) <|
 Au (bif c then true else l) fun m =>
 bif m then(some (-1))
 else(Ap (X:=Int×Int) (Y:=Int) (U2 fun f a n o =>
 bif decide (a<(b.length:Int))then(chk (decide (0<=a)) <|
 chk (decide (a<(b.length:Int))) <|
 chk ((!(decide (((b.getD a.toNat 0).toNat:Int)<48)))||(!(!(decide (((b.getD a.toNat 0).toNat:Int)<48))))) <|
 chk ((!(decide (((b.getD a.toNat 0).toNat:Int)<48)))||(!(!(decide (((b.getD a.toNat 0).toNat:Int)<48))))) <|
 chk ((decide (0<=a))||(!(!(decide (((b.getD a.toNat 0).toNat:Int)<48))))) <|
 chk ((decide (a<(b.length:Int)))||(!(!(decide (((b.getD a.toNat 0).toNat:Int)<48))))) <|
 chk ((!(decide (((b.getD a.toNat 0).toNat:Int)<48)))||(!(!(decide (((b.getD a.toNat 0).toNat:Int)<48))))) <|
 chk (bif decide (((b.getD a.toNat 0).toNat:Int)<48)then true else !(decide (((b.getD a.toNat 0).toNat:Int)<48))) <|
 chk (bif decide (((b.getD a.toNat 0).toNat:Int)<48)then true else true) <|
 let h:Bool:=bif decide (((b.getD a.toNat 0).toNat:Int)<48)then true else decide (((b.getD a.toNat 0).toNat:Int)>57)
 bif h then(some (-1))
 else(chk (decide (0<=a)) <|
 chk (decide (a<(b.length:Int))) <|
 let j:Int:=i64.wrap (IntKind.u8.wrap (((b.getD a.toNat 0).toNat:Int) - (48:Int)))
 n (i64.wrap ((i64.wrap (10*f))+j),i64.wrap (a+1))))
 else(o f))
 N (0,0) (fun g =>
 bif decide (g>2147483647)then(some (-1))
 else(some g)))
abbrev Ahw:Type:=Bool
def YY (N:Nat) (a:Int) (b:Int):Option Ahw :=
 chk ((decide (a<=1))||(!(decide (a<=1)))) <|
 chk (bif decide (a<=1)then decide (a<=1)else true) <|
 chk (bif decide (a<=1)then true else true) <|
 chk ((!(bif decide (a<=1)then decide (b<=39)else false))||(!(!(bif decide (a<=1)then decide (b<=39)else false)))) <|
 chk (bif bif decide (a<=1)then decide (b<=39)else false then true else !(bif decide (a<=1)then decide (b<=39)else false)) <|
 chk (bif bif decide (a<=1)then decide (b<=39)else false then true else true) <|
 let c:Bool:=bif bif decide (a<=1)then decide (b<=39)else false then true else(a==2)
 some c
abbrev Ahu:Type:=List Int
def Um (N:Nat) (j:Bs):Option Ahu :=
 Ac (strings_Split N j ([46]:Bs)) fun c =>
 chk ((!(decide ((c.length:Int)<2)))||(!(!(decide ((c.length:Int)<2))))) <|
 chk ((!(decide ((c.length:Int)<2)))||(!(!(decide ((c.length:Int)<2))))) <|
 chk (bif decide ((c.length:Int)<2)then true else !(decide ((c.length:Int)<2))) <|
 chk (bif decide ((c.length:Int)<2)then true else true) <|
 let g:Bool:=bif decide ((c.length:Int)<2)then true else decide ((c.length:Int)>12)
 bif g then(some ([]:List Int))
 else(Ap (X:=Int×List Int) (Y:=(List Int)) (U2 fun d b h k =>
 bif decide (d<(c.length:Int))then(chk (decide (0<=d)) <|
 chk (decide (d<(c.length:Int))) <|
 Ac (XR N (c.getD d.toNat [])) fun e =>
 bif decide (e<0)then(some ([]:List Int))
 else(chk (decide ((b.length+1)*9<=140737488355328)) <|
 h (i64.wrap (d+1),b++([e]:List Int))))
 else(k b))
 N (0,([]:List Int)) (fun a =>
 chk (decide (0<(a.length:Int))) <|
 chk (decide (0<a.length)) <|
 chk (decide (1<(a.length:Int))) <|
 chk (decide (1<a.length)) <|
 Ac (YY N (a.getD 0 0) (a.getD 1 0)) fun f =>
 bif !f then(some ([]:List Int))
 else(chk (decide (0<a.length)) <|
 some a)))
abbrev AeP:Type:=Bool
def BF (N:Nat) (a:Bs):Option AeP :=
 Ac (Um N a) fun b =>
 some (!b.isEmpty)
abbrev AbT:Type:=Bool
def lX (N:Nat) (f:Int):Option AbT :=
 Au (decide (f>=97)) fun c =>
 chk (c||!c) <|
 chk (bif c then c else true) <|
 chk (bif c then true else true) <|
 Au (bif c then decide (f<=122)else false) fun h =>
 Au (h) fun a =>
 chk (!a||(!!a)) <|
 chk (!a||(!!a)) <|
 Au (decide (f>=65)) fun d =>
 chk ((!a&&d)||(!(!a&&d))) <|
 chk (!a||(!!a)) <|
 chk ((bif d then(!a&&d)else true)||(!!a)) <|
 chk ((bif d then true else true)||(!!a)) <|
 Au (bif d then decide (f<=90)else false) fun j =>
 chk (bif a then true else !a) <|
 chk (bif a then true else true) <|
 Au (bif a then true else j) fun k =>
 Au (k) fun b =>
 chk (!b||(!!b)) <|
 chk (!b||(!!b)) <|
 Au (decide (f>=48)) fun e =>
 chk ((!b&&e)||(!(!b&&e))) <|
 chk (!b||(!!b)) <|
 chk ((bif e then(!b&&e)else true)||(!!b)) <|
 chk ((bif e then true else true)||(!!b)) <|
 Au (bif e then decide (f<=57)else false) fun l =>
 chk (bif b then true else !b) <|
 chk (bif b then true else true) <|
 Au (bif b then true else l) fun g =>
 some g
abbrev Aar:Type:=Bool
def Jk (N:Nat) (b:Int):Option Aar :=
 Ac (lX N b) fun a =>
 chk (!a||(!!a)) <|
 chk (((strings_IndexByte N ([32,39,40,41,43,44,45,46,47,58,61,63]:Bs) b).isSome)||(!!a)) <|
 let c:=(strings_IndexByte N ([32,39,40,41,43,44,45,46,47,58,61,63]:Bs) b).getD default
 chk (!a||(!!a)) <|
 chk (bif a then true else !a) <|
 chk (bif a then true else true) <|
 some (bif a then true else decide (c>=0))
abbrev Aat:Type:=Bool
def Jl (N:Nat) (a:Int):Option Aat :=
 chk ((decide (a>=32))||(!(decide (a>=32)))) <|
 chk (bif decide (a>=32)then decide (a>=32)else true) <|
 chk (bif decide (a>=32)then true else true) <|
 some (bif decide (a>=32)then decide (a<=126)else false)
def iP (N n:Nat) (a:Int):Option (Bool) :=
  bif Nat.beq n 286 then Jk N a else
  bif Nat.beq n 289 then Jl N a else
  none
abbrev AhO:Type:=Bool
def NG (N:Nat) (b:Bs) (e:Nat):Option AhO :=
 Ap (X:=Int) (Y:=Unit) (fun a d f =>
 bif decide (a<(b.length:Int))then(chk (decide (0<=a)) <|
 chk (decide (a<(b.length:Int))) <|
 Ac (iP N e ((b.getD a.toNat 0).toNat:Int)) fun c =>
 bif !c then(some false)
 else(d (i64.wrap (a+1))))
 else(f ()))
 N 0 (fun _ =>
 some true)
abbrev Aei:Type:=Bool
def J9 (N:Nat) (a:Int) (b:Bs):Option Aei :=
 bif (a==12)then(Ac (Zr N b) fun e =>
 some e)
 else(bif (a==19)then(Ac (NG N b 286) fun c =>
 some c)
 else(bif (a==22)then(Ac (NG N b 289) fun d =>
 some d)
 else(some false)))
abbrev XE:Type:=Int
def FI (N:Nat) (b:Yq0):Option XE :=
 bif ((b.length:Int)==0)then(some 14)
 else(bif decide ((b.length:Int)>4)then(some 2)
 else(Ap (X:=Int) (Y:=Unit) (fun a m o =>
 bif decide (a<(b.length:Int))then(chk (decide (0<=a)) <|
 chk (decide (a<(b.length:Int))) <|
 Ac (BF N ((b.getD a.toNat ([],0,[])).1)) fun g =>
 bif !g then(some 11)
 else(chk (((!(((b.getD a.toNat ([],0,[])).2.2)==([]:Bs)))||(!(!(((b.getD a.toNat ([],0,[])).2.2)==([]:Bs)))))) <|
 chk ((!(((b.getD a.toNat ([],0,[])).2.2)==([]:Bs)))||(!(!(((b.getD a.toNat ([],0,[])).2.2)==([]:Bs))))) <|
 chk ((!(((b.getD a.toNat ([],0,[])).2.2)==([]:Bs)))||(!(!(((b.getD a.toNat ([],0,[])).2.2)==([]:Bs))))) <|
 chk ((!(((b.getD a.toNat ([],0,[])).2.2)==([]:Bs)))||(!(!(((b.getD a.toNat ([],0,[])).2.2)==([]:Bs))))) <|
 chk (((J9 N ((b.getD a.toNat ([],0,[])).2.1) ((b.getD a.toNat ([],0,[])).2.2)).isSome)||(!(!(((b.getD a.toNat ([],0,[])).2.2)==([]:Bs))))) <|
 let h:=(J9 N ((b.getD a.toNat ([],0,[])).2.1) ((b.getD a.toNat ([],0,[])).2.2)).getD default
 chk ((!(((b.getD a.toNat ([],0,[])).2.2)==([]:Bs)))||(!(!(((b.getD a.toNat ([],0,[])).2.2)==([]:Bs))))) <|
 chk (bif (((b.getD a.toNat ([],0,[])).2.2)==([]:Bs))then true else !(((b.getD a.toNat ([],0,[])).2.2)==([]:Bs))) <|
 chk (bif (((b.getD a.toNat ([],0,[])).2.2)==([]:Bs))then true else true) <|
 let j:Bool:=bif (((b.getD a.toNat ([],0,[])).2.2)==([]:Bs))then true else !h
 bif j then(some 13)
 else(let k:Bool:=decide ((((b.getD a.toNat ([],0,[])).2.2).length:Int)>64)
 bif k then(some 2)
 else(chk (decide (0<=a)) <|
 chk (decide (a<=(b.length:Int))) <|
 Ap (X:=Int×Bs×Int×Bs) (Y:=Unit) (U4 fun d c e f n p =>
 bif decide (d<((AA b 0 a.toNat).length:Int))then(chk (decide (0<=d)) <|
 chk (decide (d<((AA b 0 a.toNat).length:Int))) <|
 let l:Bool:=((((AA b 0 a.toNat).getD d.toNat ([],0,[])).1)==c)
 bif l then(some 10)
 else(n (i64.wrap (d+1),c,e,f)))
 else(p ()))
 N (0,(b.getD a.toNat ([],0,[])).1,(b.getD a.toNat ([],0,[])).2.1,(b.getD a.toNat ([],0,[])).2.2) (fun _ =>
 m (i64.wrap (a+1)))))))
 else(o ()))
 N 0 (fun _ =>
 some 0)))
abbrev Abq:Type:=Int
def Gh (N:Nat) (b:List Yq0):Option Abq :=
 bif decide ((b.length:Int)>8)then(some 2)
 else(Ap (X:=Int) (Y:=Unit) (fun a d e =>
 bif decide (a<(b.length:Int))then(chk (decide (0<=a)) <|
 chk (decide (a<(b.length:Int))) <|
 Ac (FI N (b.getD a.toNat [])) fun c =>
 bif (c != (0:Int))then(some c)
 else(d (i64.wrap (a+1))))
 else(e ()))
 N 0 (fun _ =>
 some 0))
abbrev AgF:Type:=Int
def oL (N:Nat) (a:Int):Option AgF :=
 bif (a==1)then(some 0)
 else(bif (a==2)then(some 1)
 else(bif (a==4)then(some 2)
 else(bif (a==7)then(some 3)
 else(some 4))))
abbrev Ab1:Type:=Bool
def IA (N:Nat) (d:Int):Option Ab1 :=
 Au (decide (d>=97)) fun b =>
 chk (b||!b) <|
 chk (bif b then b else true) <|
 chk (bif b then true else true) <|
 Au (bif b then decide (d<=122)else false) fun e =>
 Au (e) fun a =>
 chk (!a||(!!a)) <|
 chk (!a||(!!a)) <|
 Au (decide (d>=65)) fun c =>
 chk ((!a&&c)||(!(!a&&c))) <|
 chk (!a||(!!a)) <|
 chk ((bif c then(!a&&c)else true)||(!!a)) <|
 chk ((bif c then true else true)||(!!a)) <|
 Au (bif c then decide (d<=90)else false) fun f =>
 chk (bif a then true else !a) <|
 chk (bif a then true else true) <|
 Au (bif a then true else f) fun g =>
 some g
abbrev Adi:Type:=Bool
def Iq (N:Nat) (a:Int):Option Adi :=
 chk ((decide (a>=48))||(!(decide (a>=48)))) <|
 chk (bif decide (a>=48)then decide (a>=48)else true) <|
 chk (bif decide (a>=48)then true else true) <|
 some (bif decide (a>=48)then decide (a<=57)else false)
abbrev Adk:Type:=Bool
def Sm (N:Nat) (f:Bs):Option Adk :=
 Au (decide ((f.length:Int)<1)) fun j =>
 chk (!j||(!!j)) <|
 chk (!j||(!!j)) <|
 chk (bif j then true else !j) <|
 chk (bif j then true else true) <|
 Au (bif j then true else decide ((f.length:Int)>63)) fun n =>
 Au (n) fun h =>
 chk (!h||(!!h)) <|
 chk ((decide (0<(f.length:Int)))||(!!h)) <|
 chk (!h||(!!h)) <|
 chk (bif h then true else !h) <|
 chk (bif h then true else true) <|
 Au (bif h then true else(((f.getD 0 0).toNat:Int)==45)) fun o =>
 Au (o) fun e =>
 chk (!e||(!!e)) <|
 chk (!e||(!!e)) <|
 chk (!e||(!!e)) <|
 chk (!e||(!!e)) <|
 chk ((decide (0<=i64.wrap ((f.length:Int) - (1:Int))))||(!!e)) <|
 chk ((decide (i64.wrap ((f.length:Int) - (1:Int))<(f.length:Int)))||(!!e)) <|
 let k:Int:=((f.getD ((i64.wrap ((f.length:Int) - (1:Int))).toNat) 0).toNat:Int)
 chk (!e||(!!e)) <|
 chk (bif e then true else !e) <|
 chk (bif e then true else true) <|
 Au (bif e then true else(k==45)) fun p =>
 bif p then(some false)
 else(chk (decide (f.length<=140737488355328)) <|
 Ap (X:=Int×List Int) (Y:=Unit) (U2 fun d a q r =>
 let l:Bool:=decide (d<((List.map (fun(b:UInt8)=>((b.toNat:Int))) f).length:Int))
 bif l then(chk (decide (0<=d)) <|
 chk (decide (d<(a.length:Int))) <|
 chk (decide (d.toNat<a.length)) <|
 Ac (IA N (a.getD d.toNat 0)) fun c =>
 chk (!c||(!!c)) <|
 chk (((Iq N (a.getD d.toNat 0)).isSome)||(!!c)) <|
 let g:=(Iq N (a.getD d.toNat 0)).getD default
 chk (!c||(!!c)) <|
 chk (bif !c then !c else true) <|
 chk (bif !c then true else true) <|
 chk ((bif !c then !g else false)||(!(bif !c then !g else false))) <|
 chk (bif bif !c then !g else false then bif !c then !g else false else true) <|
 chk (bif bif !c then !g else false then true else true) <|
 let m:Bool:=bif bif !c then !g else false then((a.getD d.toNat 0) != (45:Int))else false
 bif m then(some false)
 else(q (i64.wrap (d+1),a)))
 else(r ()))
 N (0,List.map (fun(b:UInt8)=>((b.toNat:Int))) f) (fun _ =>
 some true))
abbrev AgI:Type:=Bool
def Gz (N:Nat) (c:Bs):Option AgI :=
 bif decide ((c.length:Int)>128)then(some false)
 else(Ac (strings_Split N c ([46]:Bs)) fun b =>
 Ap (X:=Int) (Y:=Unit) (fun a e f =>
 bif decide (a<(b.length:Int))then(chk (decide (0<=a)) <|
 chk (decide (a<(b.length:Int))) <|
 Ac (Sm N (b.getD a.toNat [])) fun d =>
 bif !d then(some false)
 else(e (i64.wrap (a+1))))
 else(f ()))
 N 0 (fun _ =>
 some true))
abbrev Adm:Type:=Bool
def O9 (N:Nat) (e:Bs):Option Adm :=
 Au (decide ((e.length:Int)<1)) fun g =>
 chk (!g||(!!g)) <|
 chk (!g||(!!g)) <|
 chk (bif g then true else !g) <|
 chk (bif g then true else true) <|
 Au (bif g then true else decide ((e.length:Int)>64)) fun r =>
 Au (r) fun f =>
 chk (!f||(!!f)) <|
 chk ((decide (0<(e.length:Int)))||(!!f)) <|
 chk (!f||(!!f)) <|
 chk (bif f then true else !f) <|
 chk (bif f then true else true) <|
 Au (bif f then true else(((e.getD 0 0).toNat:Int)==46)) fun s =>
 Au (s) fun d =>
 chk (!d||(!!d)) <|
 chk (!d||(!!d)) <|
 chk (!d||(!!d)) <|
 chk (!d||(!!d)) <|
 chk ((decide (0<=i64.wrap ((e.length:Int) - (1:Int))))||(!!d)) <|
 chk ((decide (i64.wrap ((e.length:Int) - (1:Int))<(e.length:Int)))||(!!d)) <|
 let p:Int:=((e.getD ((i64.wrap ((e.length:Int) - (1:Int))).toNat) 0).toNat:Int)
 chk (!d||(!!d)) <|
 chk (bif d then true else !d) <|
 chk (bif d then true else true) <|
 Au (bif d then true else(p==46)) fun t =>
 Au (t) fun h =>
 chk (!h||(!!h)) <|
 chk (((strings_Contains N e ([46,46]:Bs)).isSome)||(!!h)) <|
 let k:=(strings_Contains N e ([46,46]:Bs)).getD default
 chk (bif h then true else !h) <|
 chk (bif h then true else true) <|
 Au (bif h then true else k) fun u =>
 bif u then(some false)
 else(chk (decide (e.length<=140737488355328)) <|
 Ap (X:=Int×List Int) (Y:=Unit) (U2 fun c a j o =>
 let q:Bool:=decide (c<((List.map (fun(b:UInt8)=>((b.toNat:Int))) e).length:Int))
 bif q then(chk (decide (0<=c)) <|
 chk (decide (c<(a.length:Int))) <|
 chk (decide (c.toNat<a.length)) <|
 Ac (IA N (a.getD c.toNat 0)) fun l =>
 bif l then(j (i64.wrap (c+1),a))
 else(Ac (Iq N (a.getD c.toNat 0)) fun m =>
 bif m then(j (i64.wrap (c+1),a))
 else(Ac (strings_IndexByte N ([33,35,36,37,38,39,42,43,45,47,61,63,94,95,96,123,124,125,126,46]:Bs) (a.getD c.toNat 0)) fun n =>
 bif !(decide (n>=0))then(some false)
 else(j (i64.wrap (c+1),a)))))
 else(o ()))
 N (0,List.map (fun(b:UInt8)=>((b.toNat:Int))) e) (fun _ =>
 some true))
abbrev AeA:Type:=Bool
def KY (N:Nat) (e:Bs):Option AeA :=
 Ac (strings_Cut N e ([64]:Bs)) fun d =>
 Au (d.2.2) fun a =>
 chk (a||!a) <|
 chk (a||!a) <|
 chk (bif a then a else true) <|
 chk (bif a then true else true) <|
 Au (bif a then decide ((e.length:Int)<=128)else false) fun h =>
 Au (h) fun b =>
 chk (b||!b) <|
 chk (((O9 N d.1).isSome)||!b) <|
 let f:=(O9 N d.1).getD default
 chk (bif b then b else true) <|
 chk (bif b then true else true) <|
 Au (bif b then f else false) fun j =>
 Au (j) fun c =>
 chk (c||!c) <|
 chk (((Gz N d.2.1).isSome)||!c) <|
 let g:=(Gz N d.2.1).getD default
 chk (bif c then c else true) <|
 chk (bif c then true else true) <|
 Au (bif c then g else false) fun k =>
 some k
abbrev uA:Type:=Bool
def JL (N:Nat) (a:Bs):Option uA :=
 chk ((decide ((a.length:Int)<=128))||(!(decide ((a.length:Int)<=128)))) <|
 chk (((KY N a).isSome)||(!(decide ((a.length:Int)<=128)))) <|
 let b:=(KY N a).getD default
 chk ((decide ((a.length:Int)<=128))||(!(decide ((a.length:Int)<=128)))) <|
 chk (((decide ((a.length:Int)<=128))&&!b)||(!((decide ((a.length:Int)<=128))&&!b))) <|
 chk (((strings_TrimPrefix N a ([46]:Bs)).isSome)||(!((decide ((a.length:Int)<=128))&&!b))) <|
 let c:=(strings_TrimPrefix N a ([46]:Bs)).getD default
 chk (((decide ((a.length:Int)<=128))&&!b)||(!((decide ((a.length:Int)<=128))&&!b))) <|
 chk (((Gz N c).isSome)||(!((decide ((a.length:Int)<=128))&&!b))) <|
 let d:=(Gz N c).getD default
 chk ((decide ((a.length:Int)<=128))||(!(decide ((a.length:Int)<=128)))) <|
 chk ((bif b then true else((decide ((a.length:Int)<=128))&&!b))||(!(decide ((a.length:Int)<=128)))) <|
 chk ((bif b then true else true)||(!(decide ((a.length:Int)<=128)))) <|
 chk (bif decide ((a.length:Int)<=128)then decide ((a.length:Int)<=128)else true) <|
 chk (bif decide ((a.length:Int)<=128)then true else true) <|
 let e:Bool:=bif decide ((a.length:Int)<=128)then bif b then true else d else false
 some e
abbrev Ae8:Type:=Bool
def QF (N:Nat) (a:Bs):Option Ae8 :=
 chk ((!(a==([]:Bs)))||(!(!(a==([]:Bs))))) <|
 chk (((Gz N a).isSome)||(!(!(a==([]:Bs))))) <|
 let b:=(Gz N a).getD default
 chk (bif (a==([]:Bs))then true else !(a==([]:Bs))) <|
 chk (bif (a==([]:Bs))then true else true) <|
 some (bif (a==([]:Bs))then true else b)
abbrev zJ:Type:=Bool
def KZ (N:Nat) (a:Bs):Option zJ :=
 Ac (strings_CutPrefix N a ([42,46]:Bs)) fun c =>
 bif c.2 then(chk (((decide ((a.length:Int)<=128))||(!(decide ((a.length:Int)<=128))))) <|
 chk (((Gz N c.1).isSome)||(!(decide ((a.length:Int)<=128)))) <|
 let b:=(Gz N c.1).getD default
 chk (bif decide ((a.length:Int)<=128)then decide ((a.length:Int)<=128)else true) <|
 chk (bif decide ((a.length:Int)<=128)then true else true) <|
 chk ((bif decide ((a.length:Int)<=128)then b else false)||(!(bif decide ((a.length:Int)<=128)then b else false))) <|
 chk (((strings_Contains N c.1 ([46]:Bs)).isSome)||(!(bif decide ((a.length:Int)<=128)then b else false))) <|
 let d:=(strings_Contains N c.1 ([46]:Bs)).getD default
 chk (bif bif decide ((a.length:Int)<=128)then b else false then bif decide ((a.length:Int)<=128)then b else false else true) <|
 chk (bif bif decide ((a.length:Int)<=128)then b else false then true else true) <|
 let f:Bool:=bif bif decide ((a.length:Int)<=128)then b else false then d else false
 some f)
 else(Ac (Gz N a) fun e =>
 some e)
abbrev Aby:Type:=Bs×Bs
def Qn (N:Nat) (a:Bs):Option Aby :=
 chk (decide (0<=i64.wrap ((a.length:Int).tdiv 2))) <|
 chk (decide (i64.wrap ((a.length:Int).tdiv 2)<=(a.length:Int))) <|
 chk (decide (0<=i64.wrap ((a.length:Int).tdiv 2))) <|
 chk (decide (i64.wrap ((a.length:Int).tdiv 2)<=(a.length:Int))) <|
 let b:Bs:=AA a ((i64.wrap ((a.length:Int).tdiv 2)).toNat) a.length
 some (AA a 0 ((i64.wrap ((a.length:Int).tdiv 2)).toNat),b)
abbrev AgJ:Type:=Bool
def PY (N:Nat) (b:Bs) (a:Int):Option AgJ :=
 chk (decide (0<=i64.wrap (a.tdiv 8))) <|
 chk (decide (i64.wrap (a.tdiv 8)<(b.length:Int))) <|
 chk (decide (0<=IntKind.u64.wrap ((7:Int) - (IntKind.u64.wrap (a.tmod 8))))) <|
 let c:Int:=((b.getD ((i64.wrap (a.tdiv 8)).toNat) 0).toNat:Int).fdiv (2 ^ (min (IntKind.u64.wrap ((7:Int) - (IntKind.u64.wrap (a.tmod 8)))).toNat 8))
 some ((Bi .and .u8 c 1)==1)
abbrev Adh:Type:=Bool
def O8 (N:Nat) (c:Bs):Option Adh :=
 chk (((c.length:Int) != (8:Int))||(!((c.length:Int) != (8:Int)))) <|
 chk (((c.length:Int) != (8:Int))||(!((c.length:Int) != (8:Int)))) <|
 chk (bif ((c.length:Int) != (8:Int))then((c.length:Int) != (8:Int))else true) <|
 chk (bif ((c.length:Int) != (8:Int))then true else true) <|
 let k:Bool:=bif ((c.length:Int) != (8:Int))then((c.length:Int) != (32:Int))else false
 bif k then(some false)
 else(Ac (Qn N c) fun f =>
 Ap (X:=Bool×Int) (Y:=Unit) (U2 fun b e o p =>
 bif decide (e<(i64.wrap (8*(f.2.length:Int))))then(Ac (PY N f.2 e) fun g =>
 Au (g) fun h =>
 chk (bif h then h else true) <|
 chk (bif h then true else true) <|
 Au (bif h then b else false) fun l =>
 Au (l) fun a =>
 chk (!a||(!!a)) <|
 chk (!a||(!!a)) <|
 Au (!g) fun d =>
 chk ((!a&&d)||(!(!a&&d))) <|
 chk ((!a&&d)||(!(!a&&d))) <|
 chk (((PY N f.1 e).isSome)||(!(!a&&d))) <|
 let j:=(PY N f.1 e).getD default
 chk (!a||(!!a)) <|
 chk ((bif d then(!a&&d)else true)||(!!a)) <|
 chk ((bif d then true else true)||(!!a)) <|
 Au (bif d then j else false) fun m =>
 chk (bif a then true else !a) <|
 chk (bif a then true else true) <|
 Au (bif a then true else m) fun n =>
 bif n then(some false)
 else(chk ((!b||(!!b))) <|
 chk (bif b then true else !b) <|
 chk (bif b then true else true) <|
 o (bif b then true else !g,i64.wrap (e+1))))
 else(p ()))
 N (false,0) (fun _ =>
 some true))
abbrev zH:Type:=Bool
def KX (N:Nat) (a:Bs):Option zH :=
 chk ((!((a.length:Int)==4))||(!(!((a.length:Int)==4)))) <|
 chk ((!((a.length:Int)==4))||(!(!((a.length:Int)==4)))) <|
 chk (bif ((a.length:Int)==4)then true else !((a.length:Int)==4)) <|
 chk (bif ((a.length:Int)==4)then true else true) <|
 let b:Bool:=bif ((a.length:Int)==4)then true else((a.length:Int)==16)
 some b
abbrev dZ:Type:=Bool
def FU (N:Nat) (m:Int) (d:Bs) (l:Bool):Option dZ :=
 bif (m==0)then(Au (l) fun h =>
 chk (h||!h) <|
 chk (((JL N d).isSome)||!h) <|
 let s:=(JL N d).getD default
 chk (bif h then h else true) <|
 chk (bif h then true else true) <|
 Au (bif h then s else false) fun y =>
 Au (y) fun b =>
 chk (!b||(!!b)) <|
 chk (!b||(!!b)) <|
 Au (!l) fun j =>
 chk ((!b&&j)||(!(!b&&j))) <|
 chk (((KY N d).isSome)||(!(!b&&j))) <|
 let t:=(KY N d).getD default
 chk (!b||(!!b)) <|
 chk ((bif j then(!b&&j)else true)||(!!b)) <|
 chk ((bif j then true else true)||(!!b)) <|
 Au (bif j then t else false) fun z =>
 chk (bif b then true else !b) <|
 chk (bif b then true else true) <|
 Au (bif b then true else z) fun aa =>
 some aa)
 else(bif (m==1)then(Au (l) fun k =>
 chk (k||!k) <|
 chk (((QF N d).isSome)||!k) <|
 let u:=(QF N d).getD default
 chk (bif k then k else true) <|
 chk (bif k then true else true) <|
 Au (bif k then u else false) fun ab =>
 Au (ab) fun c =>
 chk (!c||(!!c)) <|
 chk (!c||(!!c)) <|
 Au (!l) fun e =>
 chk ((!c&&e)||(!(!c&&e))) <|
 chk (((KZ N d).isSome)||(!(!c&&e))) <|
 let v:=(KZ N d).getD default
 chk (!c||(!!c)) <|
 chk ((bif e then(!c&&e)else true)||(!!c)) <|
 chk ((bif e then true else true)||(!!c)) <|
 Au (bif e then v else false) fun n =>
 chk (bif c then true else !c) <|
 chk (bif c then true else true) <|
 Au (bif c then true else n) fun o =>
 some o)
 else(bif (m==3)then(Au (l) fun f =>
 chk (f||!f) <|
 chk (((O8 N d).isSome)||!f) <|
 let w:=(O8 N d).getD default
 chk (bif f then f else true) <|
 chk (bif f then true else true) <|
 Au (bif f then w else false) fun p =>
 Au (p) fun a =>
 chk (!a||(!!a)) <|
 chk (!a||(!!a)) <|
 Au (!l) fun g =>
 chk ((!a&&g)||(!(!a&&g))) <|
 chk (((KX N d).isSome)||(!(!a&&g))) <|
 let x:=(KX N d).getD default
 chk (!a||(!!a)) <|
 chk ((bif g then(!a&&g)else true)||(!!a)) <|
 chk ((bif g then true else true)||(!!a)) <|
 Au (bif g then x else false) fun q =>
 chk (bif a then true else !a) <|
 chk (bif a then true else true) <|
 Au (bif a then true else q) fun r =>
 some r)
 else(some false)))
abbrev Abs:Type:=Int
def GR (N:Nat) (a:Yq1) (c:Bool):Option Abs :=
 Ac (oL N a.1) fun b =>
 bif (b==4)then(some 14)
 else(bif (b==2)then(bif !(a.2.1==([]:Bs))then(some 14)
 else(Ac (Gh N a.2.2) fun e =>
 some e))
 else(chk (((!(decide ((a.2.2.length:Int)>0)))||(!(!(decide ((a.2.2.length:Int)>0)))))) <|
 chk ((!(decide ((a.2.2.length:Int)>0)))||(!(!(decide ((a.2.2.length:Int)>0))))) <|
 chk ((!(decide ((a.2.2.length:Int)>0)))||(!(!(decide ((a.2.2.length:Int)>0))))) <|
 chk ((!(decide ((a.2.2.length:Int)>0)))||(!(!(decide ((a.2.2.length:Int)>0))))) <|
 chk (((FU N b a.2.1 c).isSome)||(!(!(decide ((a.2.2.length:Int)>0))))) <|
 let d:=(FU N b a.2.1 c).getD default
 chk ((!(decide ((a.2.2.length:Int)>0)))||(!(!(decide ((a.2.2.length:Int)>0))))) <|
 chk (bif decide ((a.2.2.length:Int)>0)then true else !(decide ((a.2.2.length:Int)>0))) <|
 chk (bif decide ((a.2.2.length:Int)>0)then true else true) <|
 bif bif decide ((a.2.2.length:Int)>0)then true else !d then(some 14)
 else(some 0)))
abbrev Yo:Type:=Int
def Gl (N:Nat) (c:List Yq1):Option Yo :=
 Ap (X:=Int) (Y:=Unit) (fun a d e =>
 bif decide (a<(c.length:Int))then(chk (decide (0<=a)) <|
 chk (decide (a<(c.length:Int))) <|
 Ac (GR N (c.getD a.toNat (0,[],[])) false) fun b =>
 bif (b != (0:Int))then(some b)
 else(d (i64.wrap (a+1))))
 else(e ()))
 N 0 (fun _ =>
 some 0)
abbrev Yq:Type:=Int
def Io (N:Nat) (a:Yq2):Option Yq :=
 GL (α :=Bool×List Yq1×Int×Bool×List Yq0) (fun g =>
 chk (((a.1.length:Int)==0)||(!((a.1.length:Int)==0))) <|
 chk (((a.1.length:Int)==0)||(!((a.1.length:Int)==0))) <|
 chk (bif ((a.1.length:Int)==0)then((a.1.length:Int)==0)else true) <|
 chk (bif ((a.1.length:Int)==0)then true else true) <|
 bif bif ((a.1.length:Int)==0)then !a.2.2.1 else false then(g (bif ((a.1.length:Int)==0)then !a.2.2.1 else false,a.1,a.2.1,a.2.2.1,a.2.2.2))
 else(chk (((decide ((a.2.2.2.length:Int)>0))||(!(decide ((a.2.2.2.length:Int)>0))))) <|
 chk ((decide ((a.2.2.2.length:Int)>0))||(!(decide ((a.2.2.2.length:Int)>0)))) <|
 chk (bif decide ((a.2.2.2.length:Int)>0)then decide ((a.2.2.2.length:Int)>0)else true) <|
 chk (bif decide ((a.2.2.2.length:Int)>0)then true else true) <|
 let k:Bool:=bif decide ((a.2.2.2.length:Int)>0)then !a.2.2.1 else false
 g (k,a.1,a.2.1,a.2.2.1,a.2.2.2)))
 (U5 fun j b d e c =>
 bif j then(some 7)
 else(bif ((Bi .andNot .i64 d 510) != (0:Int))then(some 1)
 else(bif decide ((b.length:Int)>16)then(some 2)
 else(Ac (Gl N b) fun f =>
 bif (f != (0:Int))then(some f)
 else(bif !e then(some 0)
 else(bif ((c.length:Int)==0)then(some 14)
 else(Ac (Gh N c) fun h =>
 some h)))))))
abbrev WW:Type:=Int
def BO (N:Nat) (b:List Yq2):Option WW :=
 bif decide ((b.length:Int)>4)then(some 2)
 else(Ap (X:=Int) (Y:=Unit) (fun a d e =>
 bif decide (a<(b.length:Int))then(chk (decide (0<=a)) <|
 chk (decide (a<(b.length:Int))) <|
 Ac (Io N (b.getD a.toNat ([],0,false,[]))) fun c =>
 bif (c != (0:Int))then(some c)
 else(d (i64.wrap (a+1))))
 else(e ()))
 N 0 (fun _ =>
 some 0))
abbrev y9:Type:=List Yq5
def Gm (N:Nat):Option y9 :=
 some ([(([50,46,53,46,50,57,46,49,57]:Bs),1,111,112,113),(([50,46,53,46,50,57,46,49,53]:Bs),1,114,115,116),(([50,46,53,46,50,57,46,51,55]:Bs),2,117,118,119),(([50,46,53,46,50,57,46,51,50]:Bs),2,120,121,122),(([50,46,53,46,50,57,46,51,51]:Bs),2,123,124,125),(([50,46,53,46,50,57,46,51,54]:Bs),1,126,127,128),(([50,46,53,46,50,57,46,53,52]:Bs),1,129,130,131),(([50,46,53,46,50,57,46,49,55]:Bs),2,132,133,134),(([50,46,53,46,50,57,46,51,48]:Bs),1,135,136,137),(([50,46,53,46,50,57,46,49,52]:Bs),0,138,139,140),(([50,46,53,46,50,57,46,51,53]:Bs),0,141,142,143),(([50,46,53,46,50,57,46,51,49]:Bs),0,144,145,146),(([50,46,53,46,50,57,46,52,54]:Bs),0,147,148,149)]:List Yq5)
abbrev yA:Type:=Bool
def Ez (N:Nat) (a:Int):Option yA :=
 chk ((decide (a>=((-1):Int)))||(!(decide (a>=((-1):Int))))) <|
 chk (bif decide (a>=((-1):Int))then decide (a>=((-1):Int))else true) <|
 chk (bif decide (a>=((-1):Int))then true else true) <|
 let b:Bool:=bif decide (a>=((-1):Int))then decide (a<=64)else false
 some b
abbrev bG:Type:=Int
def Hf (N:Nat) (c:List Bs) (h:Int):Option bG :=
 bif decide ((c.length:Int)>h)then(some 2)
 else(Ap (X:=Int) (Y:=Unit) (fun a f j =>
 bif decide (a<(c.length:Int))then(chk (decide (0<=a)) <|
 chk (decide (a<(c.length:Int))) <|
 Ac (BF N (c.getD a.toNat [])) fun d =>
 bif !d then(some 11)
 else(chk (decide (0<=a)) <|
 chk (decide (a<=(c.length:Int))) <|
 Ap (X:=Int) (Y:=Unit) (fun b g k =>
 bif decide (b<((AA c 0 a.toNat).length:Int))then(chk (decide (0<=b)) <|
 chk (decide (b<((AA c 0 a.toNat).length:Int))) <|
 let e:Bool:=((c.getD a.toNat [])==((AA c 0 a.toNat).getD b.toNat []))
 bif e then(some 10)
 else(g (i64.wrap (b+1))))
 else(k ()))
 N 0 (fun _ =>
 f (i64.wrap (a+1)))))
 else(j ()))
 N 0 (fun _ =>
 some 0))
abbrev UG:Type:=Int
def Gu (N:Nat) (c:List (Bs×Bs)):Option UG :=
 bif decide ((c.length:Int)>8)then(some 2)
 else(Ap (X:=Int) (Y:=Unit) (fun a j l =>
 bif decide (a<(c.length:Int))then(chk (decide (0<=a)) <|
 chk (decide (a<(c.length:Int))) <|
 Ac (BF N ((c.getD a.toNat ([],[])).1)) fun b =>
 chk ((!!b)||(!(!!b))) <|
 chk ((!!b)||(!(!!b))) <|
 chk (((BF N ((c.getD a.toNat ([],[])).2)).isSome)||(!(!!b))) <|
 let g:=(BF N ((c.getD a.toNat ([],[])).2)).getD default
 chk ((!!b)||(!(!!b))) <|
 chk (bif !b then true else !!b) <|
 chk (bif !b then true else true) <|
 bif bif !b then true else !g then(some 11)
 else(chk (decide (0<=a)) <|
 chk (decide (a<=(c.length:Int))) <|
 Ap (X:=Int×Bs×Bs) (Y:=Unit) (U3 fun d e f k m =>
 bif decide (d<((AA c 0 a.toNat).length:Int))then(chk (decide (0<=d)) <|
 chk (decide (d<((AA c 0 a.toNat).length:Int))) <|
 let h:Bool:=((e==(((AA c 0 a.toNat).getD d.toNat ([],[])).1))&&((f==(((AA c 0 a.toNat).getD d.toNat ([],[])).2))&&true))
 bif h then(some 10)
 else(k (i64.wrap (d+1),e,f)))
 else(m ()))
 N (0,(c.getD a.toNat ([],[])).1,(c.getD a.toNat ([],[])).2) (fun _ =>
 j (i64.wrap (a+1)))))
 else(l ()))
 N 0 (fun _ =>
 some 0))
abbrev wU:Type:=Int
def Du (N:Nat) (a:Yq6):Option wU :=
 chk (((a.1.length:Int)==0)||(!((a.1.length:Int)==0))) <|
 chk (((a.1.length:Int)==0)||(!((a.1.length:Int)==0))) <|
 chk (((a.1.length:Int)==0)||(!((a.1.length:Int)==0))) <|
 chk (bif ((a.1.length:Int)==0)then((a.1.length:Int)==0)else true) <|
 chk (bif ((a.1.length:Int)==0)then true else true) <|
 let h:Bool:=bif ((a.1.length:Int)==0)then((a.2.length:Int)==0)else false
 bif h then(some 7)
 else(chk (((!(decide ((a.1.length:Int)>16)))||(!(!(decide ((a.1.length:Int)>16)))))) <|
 chk ((!(decide ((a.1.length:Int)>16)))||(!(!(decide ((a.1.length:Int)>16))))) <|
 chk ((!(decide ((a.1.length:Int)>16)))||(!(!(decide ((a.1.length:Int)>16))))) <|
 chk (bif decide ((a.1.length:Int)>16)then true else !(decide ((a.1.length:Int)>16))) <|
 chk (bif decide ((a.1.length:Int)>16)then true else true) <|
 let j:Bool:=bif decide ((a.1.length:Int)>16)then true else decide ((a.2.length:Int)>16)
 bif j then(some 2)
 else(Ap (X:=Int×List (List Yq1)) (Y:=Unit) (U2 fun c b l n =>
 bif decide (c<2)then(chk (decide (0<=c)) <|
 chk (decide (c<(b.length:Int))) <|
 chk (decide (c.toNat<b.length)) <|
 Ap (X:=Int×List (List Yq1)) (Y:=(List (List Yq1))) (U2 fun d e m o =>
 let k:Bool:=decide (d<((b.getD c.toNat []).length:Int))
 bif k then(chk (decide (0<=d)) <|
 chk (decide (d<((b.getD c.toNat []).length:Int))) <|
 Ac (GR N ((b.getD c.toNat []).getD d.toNat (0,[],[])) true) fun g =>
 bif (g != (0:Int))then(some g)
 else(m (i64.wrap (d+1),e)))
 else(o e))
 N (0,b) (fun f =>
 l (i64.wrap (c+1),f)))
 else(n ()))
 N (0,([a.1,a.2]:List (List Yq1))) (fun _ =>
 some 0)))
abbrev QR:Type:=Int
def EZ (N:Nat) (a:Yq4):Option QR :=
 bif a.2.2.2.2.2.2.2.2.2.2.2.1 then(Ac (Du N (a.2.2.2.2.2.2.2.2.2.2.2.2.1,a.2.2.2.2.2.2.2.2.2.2.2.2.2.1)) fun c =>
 some c)
 else(chk (((!(decide ((a.2.2.2.2.2.2.2.2.2.2.2.2.1.length:Int)>0)))||(!(!(decide ((a.2.2.2.2.2.2.2.2.2.2.2.2.1.length:Int)>0)))))) <|
 chk ((!(decide ((a.2.2.2.2.2.2.2.2.2.2.2.2.1.length:Int)>0)))||(!(!(decide ((a.2.2.2.2.2.2.2.2.2.2.2.2.1.length:Int)>0))))) <|
 chk ((!(decide ((a.2.2.2.2.2.2.2.2.2.2.2.2.1.length:Int)>0)))||(!(!(decide ((a.2.2.2.2.2.2.2.2.2.2.2.2.1.length:Int)>0))))) <|
 chk ((!(decide ((a.2.2.2.2.2.2.2.2.2.2.2.2.1.length:Int)>0)))||(!(!(decide ((a.2.2.2.2.2.2.2.2.2.2.2.2.1.length:Int)>0))))) <|
 chk (bif decide ((a.2.2.2.2.2.2.2.2.2.2.2.2.1.length:Int)>0)then true else !(decide ((a.2.2.2.2.2.2.2.2.2.2.2.2.1.length:Int)>0))) <|
 chk (bif decide ((a.2.2.2.2.2.2.2.2.2.2.2.2.1.length:Int)>0)then true else true) <|
 let b:Bool:=bif decide ((a.2.2.2.2.2.2.2.2.2.2.2.2.1.length:Int)>0)then true else decide ((a.2.2.2.2.2.2.2.2.2.2.2.2.2.1.length:Int)>0)
 bif b then(some 7)
 else(some 0))
abbrev y7:Type:=Yq5×Bool
def Bq (N:Nat) (d:Bs):Option y7 :=
 Ac (Gm N) fun b =>
 Ap (X:=Int) (Y:=Unit) (fun a c e =>
 bif decide (a<(b.length:Int))then(chk (decide (0<=a)) <|
 chk (decide (a<(b.length:Int))) <|
 bif (((b.getD a.toNat ([],0,0,0,0)).1)==d)then(some ((b.getD a.toNat ([],0,0,0,0)),true))
 else(c (i64.wrap (a+1))))
 else(e ()))
 N 0 (fun _ =>
 some ((([]:Bs),0,0,0,0),false))
abbrev Afk:Type:=Int
def iE (N:Nat) (a:Int):Option Afk :=
 bif (a==1)then(some 128)
 else(let b:Int:=IntKind.u64.wrap (8*(IntKind.u64.wrap (i64.wrap (a - (1:Int)))))
 chk (decide (0<=b)) <|
 some (i64.wrap ((1:Int)*(2 ^ (min b.toNat 64)))))
abbrev AhS:Type:=(Int×Bs×Bs)×Bs×Int
def NH (N:Nat) (a:Bs):Option AhS :=
 bif (a==([]:Bs))then(some ((0,([]:Bs),([]:Bs)),([]:Bs),3))
 else(chk (decide (0<(a.length:Int))) <|
 let n:Bool:=((Bi .and .i64 (i64.wrap ((a.getD 0 0).toNat:Int)) 31)==31)
 bif n then(some ((0,([]:Bs),([]:Bs)),([]:Bs),5))
 else(bif decide ((a.length:Int)<2)then(some ((0,([]:Bs),([]:Bs)),([]:Bs),3))
 else(chk (decide (1<(a.length:Int))) <|
 chk ((!((i64.wrap ((a.getD 1 0).toNat:Int))==128))||(!(!((i64.wrap ((a.getD 1 0).toNat:Int))==128)))) <|
 chk (bif ((i64.wrap ((a.getD 1 0).toNat:Int))==128)then true else !((i64.wrap ((a.getD 1 0).toNat:Int))==128)) <|
 chk (bif ((i64.wrap ((a.getD 1 0).toNat:Int))==128)then true else true) <|
 let o:Bool:=bif ((i64.wrap ((a.getD 1 0).toNat:Int))==128)then true else decide ((i64.wrap ((a.getD 1 0).toNat:Int))>131)
 bif o then(some ((0,([]:Bs),([]:Bs)),([]:Bs),6))
 else(GL (α :=Int×Int) (fun m =>
 bif decide ((i64.wrap ((a.getD 1 0).toNat:Int))>128)then(let h:Int:=i64.wrap ((i64.wrap ((a.getD 1 0).toNat:Int)) - (128:Int))
 bif decide ((a.length:Int)<(i64.wrap (2+h)))then(some ((0,([]:Bs),([]:Bs)),([]:Bs),3))
 else(chk (decide (2<=i64.wrap (2+h))) <|
 chk (decide (i64.wrap (2+h)<=(a.length:Int))) <|
 chk (decide ((AA a 2 ((i64.wrap (2+h)).toNat)).length<=140737488355328)) <|
 let k:List Int:=List.map (fun(b:UInt8)=>((b.toNat:Int))) (AA a 2 ((i64.wrap (2+h)).toNat))
 Ap (X:=Int×Int×List Int) (Y:=Int) (U3 fun l f d q r =>
 bif decide (f<(k.length:Int))then(chk (decide (0<=f)) <|
 chk (decide (f<(d.length:Int))) <|
 chk (decide (f.toNat<d.length)) <|
 let p:Int:=Bi .or .i64 (i64.wrap (l*(256))) (i64.wrap (d.getD f.toNat 0))
 q (p,i64.wrap (f+1),d))
 else(r l))
 N (0,0,k) (fun g =>
 Ac (iE N h) fun j =>
 chk ((!(decide (g<j)))||(!(!(decide (g<j))))) <|
 chk (bif decide (g<j)then true else !(decide (g<j))) <|
 chk (bif decide (g<j)then true else true) <|
 bif bif decide (g<j)then true else decide (g>131072)then(some ((0,([]:Bs),([]:Bs)),([]:Bs),6))
 else(m (g,i64.wrap (2+h))))))
 else(m (i64.wrap ((a.getD 1 0).toNat:Int),2)))
 (U2 fun e c =>
 bif decide ((i64.wrap ((a.length:Int) - c))<e)then(some ((0,([]:Bs),([]:Bs)),([]:Bs),3))
 else(chk (decide (0<=c)) <|
 chk (decide (c<=i64.wrap (c+e))) <|
 chk (decide (i64.wrap (c+e)<=(a.length:Int))) <|
 chk (decide (0<=i64.wrap (c+e))) <|
 chk (decide (i64.wrap (c+e)<=(a.length:Int))) <|
 chk (decide (0<=i64.wrap (c+e))) <|
 chk (decide (i64.wrap (c+e)<=(a.length:Int))) <|
 some ((i64.wrap ((a.getD 0 0).toNat:Int),AA a c.toNat ((i64.wrap (c+e)).toNat),AA a 0 ((i64.wrap (c+e)).toNat)),AA a ((i64.wrap (c+e)).toNat) a.length,0)))))))
abbrev Akp:Type:=(Int×Bs×Bs)×Int
def NZ (N:Nat) (b:Bs):Option Akp :=
 Ac (NH N b) fun a =>
 bif (a.2.2 != (0:Int))then(some ((0,([]:Bs),([]:Bs)),a.2.2))
 else(bif !(a.2.1==([]:Bs))then(some ((0,([]:Bs),([]:Bs)),4))
 else(some (a.1,0)))
abbrev UB:Type:=Int
def I5 (N:Nat) (F:(Int×Bs×Bs)->Int->Option UB) (d:Int×Bs×Bs) (e:Int):Option UB :=
 bif ((Bi .and .i64 d.1 32)==0)then(some 0)
 else(Ap (X:=Bs) (Y:=Unit) (fun c f g =>
 bif !(c==([]:Bs))then(Ac (NH N c) fun a =>
 bif (a.2.2 != (0:Int))then(some a.2.2)
 else(bif decide (e>=16)then(some 8)
 else(Ac (F a.1 (i64.wrap (e+1))) fun b =>
 bif (b != (0:Int))then(some b)
 else(f a.2.1))))
 else(g ()))
 N d.2.1 (fun _ =>
 some 0))
def JB (N:Nat):Nat->(Int×Bs×Bs)->Int->Option UB
  | 0=>fun a b=>none
  | n+1=>fun a b=>I5 N (JB N n) a b
abbrev Afg:Type:=Int
def Iz (N:Nat) (c:Bs):Option Afg :=
 Ac (NZ N c) fun a =>
 bif (a.2 != (0:Int))then(some a.2)
 else(Ac (JB N N a.1 1) fun b =>
 some b)
abbrev VP:Type:=Int
def Fa (N:Nat) (e:Yq3):Option VP :=
 Ap (X:=Int) (Y:=Unit) (fun a o q =>
 bif decide (a<(e.length:Int))then(chk (decide (0<=a)) <|
 chk (decide (a<(e.length:Int))) <|
 Ac (BF N ((e.getD a.toNat ([],false,[])).1)) fun l =>
 bif !l then(some 11)
 else(Ac (Bq N ((e.getD a.toNat ([],false,[])).1)) fun m =>
 bif m.2 then(some 20)
 else(chk (decide (0<=a)) <|
 chk (decide (a<=(e.length:Int))) <|
 Ap (X:=Int×Bs×Bool×Bs) (Y:=(Bs×Bool×Bs)) (U4 fun f b c d p r =>
 bif decide (f<((AA e 0 a.toNat).length:Int))then(chk (decide (0<=f)) <|
 chk (decide (f<((AA e 0 a.toNat).length:Int))) <|
 let n:Bs:=((AA e 0 a.toNat).getD f.toNat ([],false,[])).1
 bif (n==b)then(some 10)
 else(p (i64.wrap (f+1),b,c,d)))
 else(r (b,c,d)))
 N (0,(e.getD a.toNat ([],false,[])).1,(e.getD a.toNat ([],false,[])).2.1,(e.getD a.toNat ([],false,[])).2.2) (U3 fun h j g =>
 Ac (Iz N g) fun k =>
 bif (k != (0:Int))then(some k)
 else(o (i64.wrap (a+1)))))))
 else(q ()))
 N 0 (fun _ =>
 some 0)
abbrev mZ:Type:=Bool
def PK (N:Nat) (a:Yq4):Option mZ :=
 some a.1
abbrev nD:Type:=Bool
def PL (N:Nat) (a:Yq4):Option nD :=
 some (a.2.2.2.1 != (0:Int))
abbrev nH:Type:=Bool
def PM (N:Nat) (a:Yq4):Option nH :=
 some (decide ((a.2.2.2.2.1.length:Int)>0))
abbrev nJ:Type:=Bool
def PN (N:Nat) (a:Yq4):Option nJ :=
 some (decide ((a.2.2.2.2.2.1.length:Int)>0))
abbrev nM:Type:=Bool
def PO (N:Nat) (a:Yq4):Option nM :=
 some (decide ((a.2.2.2.2.2.2.1.length:Int)>0))
abbrev nO:Type:=Bool
def IX (N:Nat) (a:Yq4):Option nO :=
 chk ((!(a.2.2.2.2.2.2.2.1 != ((-1):Int)))||(!(!(a.2.2.2.2.2.2.2.1 != ((-1):Int))))) <|
 chk ((!(a.2.2.2.2.2.2.2.1 != ((-1):Int)))||(!(!(a.2.2.2.2.2.2.2.1 != ((-1):Int))))) <|
 chk (bif (a.2.2.2.2.2.2.2.1 != ((-1):Int))then true else !(a.2.2.2.2.2.2.2.1 != ((-1):Int))) <|
 chk (bif (a.2.2.2.2.2.2.2.1 != ((-1):Int))then true else true) <|
 let b:Bool:=bif (a.2.2.2.2.2.2.2.1 != ((-1):Int))then true else(a.2.2.2.2.2.2.2.2.1 != ((-1):Int))
 some b
abbrev nR:Type:=Bool
def PQ (N:Nat) (a:Yq4):Option nR :=
 some (a.2.2.2.2.2.2.2.2.2.1 != ((-1):Int))
abbrev nT:Type:=Bool
def PR (N:Nat) (a:Yq4):Option nT :=
 some (decide ((a.2.2.2.2.2.2.2.2.2.2.1.length:Int)>0))
abbrev nV:Type:=Bool
def PS (N:Nat) (a:Yq4):Option nV :=
 some a.2.2.2.2.2.2.2.2.2.2.2.1
abbrev jJ:Type:=Bool
def Oj (N:Nat) (a:Yq4):Option jJ :=
 some (!(a.2.2.2.2.2.2.2.2.2.2.2.2.2.2.1==([]:Bs)))
abbrev jL:Type:=Bool
def Ol (N:Nat) (a:Yq4):Option jL :=
 some (!(a.2.2.2.2.2.2.2.2.2.2.2.2.2.2.2.1==([]:Bs)))
abbrev jO:Type:=Bool
def Om (N:Nat) (a:Yq4):Option jO :=
 let b:Bool:=decide ((a.2.2.2.2.2.2.2.2.2.2.2.2.2.2.2.2.1.length:Int)>0)
 some b
abbrev jQ:Type:=Bool
def Oo (N:Nat) (a:Yq4):Option jQ :=
 let b:Bool:=decide ((a.2.2.2.2.2.2.2.2.2.2.2.2.2.2.2.2.2.1.length:Int)>0)
 some b
def iM (N n:Nat) (a:Yq4):Option (Bool) :=
  bif Nat.beq n 111 then PK N a else
  bif Nat.beq n 114 then PL N a else
  bif Nat.beq n 117 then PM N a else
  bif Nat.beq n 120 then PN N a else
  bif Nat.beq n 123 then PO N a else
  bif Nat.beq n 126 then IX N a else
  bif Nat.beq n 129 then PQ N a else
  bif Nat.beq n 132 then PR N a else
  bif Nat.beq n 135 then PS N a else
  bif Nat.beq n 138 then Oj N a else
  bif Nat.beq n 141 then Ol N a else
  bif Nat.beq n 144 then Om N a else
  bif Nat.beq n 147 then Oo N a else
  none
abbrev rM:Type:=Int
def Ia (N:Nat) (a:Yq4):Option rM :=
 Au (a.2.1) fun ad =>
 chk (ad||!ad) <|
 chk (ad||!ad) <|
 chk (bif ad then ad else true) <|
 chk (bif ad then true else true) <|
 Au (bif ad then !a.1 else false) fun aX =>
 Au (aX) fun v =>
 chk (!v||(!!v)) <|
 chk (!v||(!!v)) <|
 chk (!v||(!!v)) <|
 Au (a.2.2.1 != ((-1):Int)) fun ae =>
 chk ((!v&&ae)||(!(!v&&ae))) <|
 chk ((!v&&ae)||(!(!v&&ae))) <|
 chk (!v||(!!v)) <|
 chk ((bif ae then(!v&&ae)else true)||(!!v)) <|
 chk ((bif ae then true else true)||(!!v)) <|
 Au (bif ae then !a.2.1 else false) fun aY =>
 chk (bif v then true else !v) <|
 chk (bif v then true else true) <|
 Au (bif v then true else aY) fun aZ =>
 bif aZ then(some 7)
 else(Ac (Ez N a.2.2.1) fun aS =>
 Au (!aS) fun aa =>
 chk (!aa||(!!aa)) <|
 chk (!aa||(!!aa)) <|
 chk (((Ez N a.2.2.2.2.2.2.2.1).isSome)||(!!aa)) <|
 let aT:=(Ez N a.2.2.2.2.2.2.2.1).getD default
 chk (!aa||(!!aa)) <|
 chk (bif aa then true else !aa) <|
 chk (bif aa then true else true) <|
 Au (bif aa then true else !aT) fun a0 =>
 Au (a0) fun ab =>
 chk (!ab||(!!ab)) <|
 chk (!ab||(!!ab)) <|
 chk (((Ez N a.2.2.2.2.2.2.2.2.1).isSome)||(!!ab)) <|
 let aU:=(Ez N a.2.2.2.2.2.2.2.2.1).getD default
 chk (!ab||(!!ab)) <|
 chk (bif ab then true else !ab) <|
 chk (bif ab then true else true) <|
 Au (bif ab then true else !aU) fun aO =>
 Au (aO) fun w =>
 chk (!w||(!!w)) <|
 chk (!w||(!!w)) <|
 chk (((Ez N a.2.2.2.2.2.2.2.2.2.1).isSome)||(!!w)) <|
 let aV:=(Ez N a.2.2.2.2.2.2.2.2.2.1).getD default
 chk (!w||(!!w)) <|
 chk (bif w then true else !w) <|
 chk (bif w then true else true) <|
 Au (bif w then true else !aV) fun aP =>
 Au (aP) fun y =>
 chk (!y||(!!y)) <|
 chk (!y||(!!y)) <|
 chk (bif y then true else !y) <|
 chk (bif y then true else true) <|
 Au (bif y then true else decide (a.2.2.2.1<0)) fun aQ =>
 Au (aQ) fun z =>
 chk (!z||(!!z)) <|
 chk (!z||(!!z)) <|
 chk (bif z then true else !z) <|
 chk (bif z then true else true) <|
 Au (bif z then true else decide (a.2.2.2.1>511)) fun aR =>
 bif aR then(some 1)
 else(Ac (Hf N a.2.2.2.2.1 8) fun aE =>
 bif (aE != (0:Int))then(some aE)
 else(Ac (Hf N a.2.2.2.2.2.1 8) fun aF =>
 bif (aF != (0:Int))then(some aF)
 else(Ac (Gu N a.2.2.2.2.2.2.1) fun aG =>
 bif (aG != (0:Int))then(some aG)
 else(bif decide ((a.2.2.2.2.2.2.2.2.2.2.1.length:Int)>16)then(some 2)
 else(Ac (Gl N a.2.2.2.2.2.2.2.2.2.2.1) fun aH =>
 bif (aH != (0:Int))then(some aH)
 else(Ac (EZ N a) fun aI =>
 bif (aI != (0:Int))then(some aI)
 else(chk (((!(decide ((a.2.2.2.2.2.2.2.2.2.2.2.2.2.2.1.length:Int)>32)))||(!(!(decide ((a.2.2.2.2.2.2.2.2.2.2.2.2.2.2.1.length:Int)>32)))))) <|
 chk ((!(decide ((a.2.2.2.2.2.2.2.2.2.2.2.2.2.2.1.length:Int)>32)))||(!(!(decide ((a.2.2.2.2.2.2.2.2.2.2.2.2.2.2.1.length:Int)>32))))) <|
 chk ((!(decide ((a.2.2.2.2.2.2.2.2.2.2.2.2.2.2.1.length:Int)>32)))||(!(!(decide ((a.2.2.2.2.2.2.2.2.2.2.2.2.2.2.1.length:Int)>32))))) <|
 let aM:Bool:=decide ((a.2.2.2.2.2.2.2.2.2.2.2.2.2.2.2.1.length:Int)>32)
 chk (bif decide ((a.2.2.2.2.2.2.2.2.2.2.2.2.2.2.1.length:Int)>32)then true else !(decide ((a.2.2.2.2.2.2.2.2.2.2.2.2.2.2.1.length:Int)>32))) <|
 chk (bif decide ((a.2.2.2.2.2.2.2.2.2.2.2.2.2.2.1.length:Int)>32)then true else true) <|
 let aN:Bool:=bif decide ((a.2.2.2.2.2.2.2.2.2.2.2.2.2.2.1.length:Int)>32)then true else aM
 bif aN then(some 2)
 else(Ac (BO N a.2.2.2.2.2.2.2.2.2.2.2.2.2.2.2.2.1) fun ah =>
 bif (ah != (0:Int))then(some ah)
 else(Ac (BO N a.2.2.2.2.2.2.2.2.2.2.2.2.2.2.2.2.2.1) fun ai =>
 bif (ai != (0:Int))then(some ai)
 else(Ac (Gm N) fun af =>
 Ap (X:=Int×Int×Bool×Bool×Int×Int×List Bs×List Bs×(List (Bs×Bs))×Int×Int×Int×List Yq1×Bool×List Yq1×List Yq1×Bs×Bs×List Yq2×List Yq2×List (Bs×Bool×Bs)) (Y:=(Int×Bool×Bool×Int×Int×List Bs×List Bs×(List (Bs×Bs))×Int×Int×Int×List Yq1×Bool×List Yq1×List Yq1×Bs×Bs×List Yq2×List Yq2×List (Bs×Bool×Bs))) (U21 fun ag x l m n o p q r s t u b c d e f g h j k aD aW =>
 bif decide (x<(af.length:Int))then(chk (decide (0<=x)) <|
 chk (decide (x<(af.length:Int))) <|
 Ac (iM N ((af.getD x.toNat ([],0,0,0,0)).2.2.1) (l,m,n,o,p,q,r,s,t,u,b,c,d,e,f,g,h,j,k)) fun aJ =>
 bif aJ then(aD (i64.wrap (ag+1),i64.wrap (x+1),l,m,n,o,p,q,r,s,t,u,b,c,d,e,f,g,h,j,k))
 else(aD (ag,i64.wrap (x+1),l,m,n,o,p,q,r,s,t,u,b,c,d,e,f,g,h,j,k)))
 else(aW (ag,l,m,n,o,p,q,r,s,t,u,b,c,d,e,f,g,h,j,k)))
 N ((a.2.2.2.2.2.2.2.2.2.2.2.2.2.2.2.2.2.2.length:Int),0,a.1,a.2.1,a.2.2.1,a.2.2.2.1,a.2.2.2.2.1,a.2.2.2.2.2.1,a.2.2.2.2.2.2.1,a.2.2.2.2.2.2.2.1,a.2.2.2.2.2.2.2.2.1,a.2.2.2.2.2.2.2.2.2.1,a.2.2.2.2.2.2.2.2.2.2.1,a.2.2.2.2.2.2.2.2.2.2.2.1,a.2.2.2.2.2.2.2.2.2.2.2.2.1,a.2.2.2.2.2.2.2.2.2.2.2.2.2.1,a.2.2.2.2.2.2.2.2.2.2.2.2.2.2.1,a.2.2.2.2.2.2.2.2.2.2.2.2.2.2.2.1,a.2.2.2.2.2.2.2.2.2.2.2.2.2.2.2.2.1,a.2.2.2.2.2.2.2.2.2.2.2.2.2.2.2.2.2.1,a.2.2.2.2.2.2.2.2.2.2.2.2.2.2.2.2.2.2) (U20 fun aL ar au av aw ax ay az aA aB aC aj ak al am an ao ap aq ac =>
 bif decide (aL>24)then(some 2)
 else(Ac (Fa N ac) fun aK =>
 some aK)))))))))))))
abbrev o7:Type:=Bool×Bool
def Jb (N:Nat) (a:Bool):Option o7 :=
 some (a,a)
abbrev kC:Type:=Bs×Bool
def BK (N:Nat) (a:Bool) (b:Bs) (c:Int):Option kC :=
 chk (!a||(!!a)) <|
 chk (bif a then true else !a) <|
 chk (bif a then true else true) <|
 some (b,bif a then true else(c != (0:Int)))
abbrev AhU:Type:=Bs×Int
def Cb (N:Nat) (a:Int) (e:List Bs):Option AhU :=
 chk ((!(decide (a<0)))||(!(!(decide (a<0))))) <|
 chk (bif decide (a<0)then true else !(decide (a<0))) <|
 chk (bif decide (a<0)then true else true) <|
 chk ((!(bif decide (a<0)then true else decide (a>255)))||(!(!(bif decide (a<0)then true else decide (a>255))))) <|
 chk ((!(bif decide (a<0)then true else decide (a>255)))||(!(!(bif decide (a<0)then true else decide (a>255))))) <|
 chk (bif bif decide (a<0)then true else decide (a>255)then true else !(bif decide (a<0)then true else decide (a>255))) <|
 chk (bif bif decide (a<0)then true else decide (a>255)then true else true) <|
 let j:Bool:=bif bif decide (a<0)then true else decide (a>255)then true else((Bi .and .i64 a 31)==31)
 bif j then(some (([]:Bs),5))
 else(Ap (X:=Int×Int) (Y:=Int) (U2 fun f d l m =>
 bif decide (d<(e.length:Int))then(chk (decide (0<=d)) <|
 chk (decide (d<(e.length:Int))) <|
 let k:Bool:=decide (((e.getD d.toNat []).length:Int)>(i64.wrap ((131072:Int) - f)))
 bif k then(some (([]:Bs),6))
 else(l (i64.wrap (f+((e.getD d.toNat []).length:Int)),i64.wrap (d+1))))
 else(m f))
 N (0,0) (fun c =>
 GL (α :=List Int) (fun g =>
 bif decide (c<128)then(g ([IntKind.u8.wrap a,IntKind.u8.wrap c]:List Int))
 else(bif decide (c<256)then(g ([IntKind.u8.wrap a,129,IntKind.u8.wrap c]:List Int))
 else(bif decide (c<65536)then(g ([IntKind.u8.wrap a,130,IntKind.u8.wrap (c.fdiv (256)),IntKind.u8.wrap c]:List Int))
 else(g ([IntKind.u8.wrap a,131,IntKind.u8.wrap (c.fdiv (65536)),IntKind.u8.wrap (c.fdiv (256)),IntKind.u8.wrap c]:List Int)))))
 (fun b =>
 chk (List.all b isByte) <|
 Ac (strings_Join N e ([]:Bs)) fun h =>
 chk (decide ((List.map byteOf b).length+h.length<=140737488355328)) <|
 some ((List.map byteOf b)++h,0))))
abbrev kD:Type:=Bs×Bool
def Aj (N:Nat) (c:Bool) (d:Int) (e:List Bs):Option kD :=
 Ac (Cb N d e) fun a =>
 Ac (BK N c a.1 a.2) fun b =>
 some (b.1,b.2)
abbrev o9:Type:=Bs×Bool
def AZ (N:Nat) (b:Bool) (c:List Bs):Option o9 :=
 Ac (Aj N b 48 c) fun a =>
 some (a.1,a.2)
abbrev kP:Type:=Bs
def Gx (N:Nat) (h:Int):Option kP :=
 Ap (X:=Int×Int) (Y:=Int) (U2 fun e c l n =>
 chk ((!(decide (c<((-128):Int))))||(!(!(decide (c<((-128):Int)))))) <|
 chk (bif decide (c<((-128):Int))then true else !(decide (c<((-128):Int)))) <|
 chk (bif decide (c<((-128):Int))then true else true) <|
 let j:Bool:=bif decide (c<((-128):Int))then true else decide (c>127)
 bif j then(l (i64.wrap (e+1),c.fdiv (256)))
 else(n e))
 N (1,h) (fun f =>
 Ap (X:=Int×List Int) (Y:=(List Int)) (U2 fun d a m o =>
 bif decide (d<f)then(let g:Int:=IntKind.u64.wrap (i64.wrap ((i64.wrap (f - (1:Int))) - d))
 chk (decide (0<=IntKind.u64.wrap (8*g))) <|
 let k:Int:=IntKind.u8.wrap (h.fdiv (2 ^ (min (IntKind.u64.wrap (8*g)).toNat 64)))
 chk (decide ((a.length+1)*2<=140737488355328)) <|
 m (i64.wrap (d+1),a++([k]:List Int)))
 else(o a))
 N (0,([]:List Int)) (fun b =>
 chk (List.all b isByte) <|
 some (List.map byteOf b)))
abbrev o8:Type:=Bs×Bool
def Jc (N:Nat) (b:Bool) (c:Int):Option o8 :=
 Ac (Gx N c) fun d =>
 Ac (Aj N b 2 ([d]:List Bs)) fun a =>
 some (a.1,a.2)
abbrev kM:Type:=Bs
def VB (N:Nat) (a:Bool):Option kM :=
 bif a then(some ([255]:Bs))
 else(some ([0]:Bs))
abbrev jZ:Type:=Bs×Bool
def Ip (N:Nat) (b:Bool) (d:Int) (e:Bool):Option jZ :=
 bif !e then(some (([]:Bs),b))
 else(Ac (VB N true) fun c =>
 Ac (Aj N b d ([c]:List Bs)) fun a =>
 some (a.1,a.2))
abbrev bY:Type:=Bs×Bool
def FO (N:Nat) (aa:Bool) (a:Yq4):Option bY :=
 GL (α :=Bs×Bool×Bool×Bool×Int×Int×List Bs×List Bs×(List (Bs×Bs))×Int×Int×Int×List Yq1×Bool×List Yq1×List Yq1×Bs×Bs×List Yq2×List Yq2×List (Bs×Bool×Bs)) (fun z =>
 bif (a.2.2.1 != ((-1):Int))then(Ac (Jc N aa a.2.2.1) fun w =>
 z (w.1,w.2,a.1,a.2.1,a.2.2.1,a.2.2.2.1,a.2.2.2.2.1,a.2.2.2.2.2.1,a.2.2.2.2.2.2.1,a.2.2.2.2.2.2.2.1,a.2.2.2.2.2.2.2.2.1,a.2.2.2.2.2.2.2.2.2.1,a.2.2.2.2.2.2.2.2.2.2.1,a.2.2.2.2.2.2.2.2.2.2.2.1,a.2.2.2.2.2.2.2.2.2.2.2.2.1,a.2.2.2.2.2.2.2.2.2.2.2.2.2.1,a.2.2.2.2.2.2.2.2.2.2.2.2.2.2.1,a.2.2.2.2.2.2.2.2.2.2.2.2.2.2.2.1,a.2.2.2.2.2.2.2.2.2.2.2.2.2.2.2.2.1,a.2.2.2.2.2.2.2.2.2.2.2.2.2.2.2.2.2.1,a.2.2.2.2.2.2.2.2.2.2.2.2.2.2.2.2.2.2))
 else(z (([]:Bs),aa,a.1,a.2.1,a.2.2.1,a.2.2.2.1,a.2.2.2.2.1,a.2.2.2.2.2.1,a.2.2.2.2.2.2.1,a.2.2.2.2.2.2.2.1,a.2.2.2.2.2.2.2.2.1,a.2.2.2.2.2.2.2.2.2.1,a.2.2.2.2.2.2.2.2.2.2.1,a.2.2.2.2.2.2.2.2.2.2.2.1,a.2.2.2.2.2.2.2.2.2.2.2.2.1,a.2.2.2.2.2.2.2.2.2.2.2.2.2.1,a.2.2.2.2.2.2.2.2.2.2.2.2.2.2.1,a.2.2.2.2.2.2.2.2.2.2.2.2.2.2.2.1,a.2.2.2.2.2.2.2.2.2.2.2.2.2.2.2.2.1,a.2.2.2.2.2.2.2.2.2.2.2.2.2.2.2.2.2.1,a.2.2.2.2.2.2.2.2.2.2.2.2.2.2.2.2.2.2)))
 (U21 fun ab c n b o p q r s t u v d e f g h j k l m =>
 Ac (Ip N c 1 b) fun x =>
 Ac (AZ N x.2 ([x.1,ab]:List Bs)) fun y =>
 some (y.1,y.2))
abbrev wB:Type:=Bs×Int
def Ih (N:Nat) (e:Int):Option wB :=
 chk ((!(decide (e<0)))||(!(!(decide (e<0))))) <|
 chk (bif decide (e<0)then true else !(decide (e<0))) <|
 chk (bif decide (e<0)then true else true) <|
 bif bif decide (e<0)then true else decide (e>65535)then(some (([]:Bs),1))
 else(Ap (X:=Int) (Y:=Int) (fun f q r =>
 chk (decide (0<=IntKind.u64.wrap f)) <|
 let k:Bool:=decide ((e.fdiv (2 ^ (min (IntKind.u64.wrap f).toNat 64)))>0)
 bif k then(q (i64.wrap (f+1)))
 else(r f))
 N 0 (fun g =>
 let c:Int:=i64.wrap (1+(i64.wrap ((i64.wrap (g+7)).tdiv 8)))
 chk (decide (c<=c)) <|
 chk (decide (0<=c)) <|
 chk (decide (c*2<=140737488355328)) <|
 let l:Int:=i64.wrap (((List.replicate c.toNat 0:List Int).length:Int) - (1:Int))
 let m:Int:=IntKind.u8.wrap (i64.wrap ((i64.wrap (8*l)) - g))
 chk (decide (0<((List.replicate c.toNat 0:List Int).length:Int))) <|
 chk (decide (0<(List.replicate c.toNat 0:List Int).length)) <|
 Ap (X:=Int×List Int) (Y:=(List Int)) (U2 fun a b j s =>
 bif decide (a<g)then(chk (decide (0<=IntKind.u64.wrap a)) <|
 let n:Int:=Bi .and .i64 (e.fdiv (2 ^ (min (IntKind.u64.wrap a).toNat 64))) 1
 bif (n==1)then(chk (decide (0<=i64.wrap (1+(i64.wrap (a.tdiv 8))))) <|
 chk (decide (i64.wrap (1+(i64.wrap (a.tdiv 8)))<(b.length:Int))) <|
 chk (decide ((i64.wrap (1+(i64.wrap (a.tdiv 8)))).toNat<b.length)) <|
 let o:Int:=(b.getD ((i64.wrap (1+(i64.wrap (a.tdiv 8)))).toNat) 0)
 chk (decide (0<=IntKind.u64.wrap ((7:Int) - (IntKind.u64.wrap (a.tmod 8))))) <|
 let p:Int:=IntKind.u8.wrap ((1:Int)*(2 ^ (min (IntKind.u64.wrap ((7:Int) - (IntKind.u64.wrap (a.tmod 8)))).toNat 8)))
 chk (decide (0<=i64.wrap (1+(i64.wrap (a.tdiv 8))))) <|
 chk (decide (i64.wrap (1+(i64.wrap (a.tdiv 8)))<(b.length:Int))) <|
 chk (decide ((i64.wrap (1+(i64.wrap (a.tdiv 8)))).toNat<b.length)) <|
 let h:List Int:=b.set ((i64.wrap (1+(i64.wrap (a.tdiv 8)))).toNat) (Bi .or .u8 o p)
 j (i64.wrap (a+1),h))
 else(j (i64.wrap (a+1),b)))
 else(s b))
 N (0,(List.replicate c.toNat 0:List Int).set 0 m) (fun d =>
 chk (List.all d isByte) <|
 some (List.map byteOf d,0))))
abbrev dA:Type:=Bs×Bool
def FQ (N:Nat) (d:Bool) (e:Yq4):Option dA :=
 Ac (Ih N e.2.2.2.1) fun c =>
 Ac (BK N d c.1 c.2) fun a =>
 Ac (Aj N a.2 3 ([a.1]:List Bs)) fun b =>
 some (b.1,b.2)
abbrev AjI:Type:=List Int
def XT (N:Nat) (o:List Int) (g:Int):Option AjI :=
 Ap (X:=Int×List Int) (Y:=(Int×List Int)) (U2 fun c f m p =>
 chk (decide (0<=IntKind.u64.wrap (7*(IntKind.u64.wrap c)))) <|
 let k:Int:=g.fdiv (2 ^ (min (IntKind.u64.wrap (7*(IntKind.u64.wrap c))).toNat 64))
 bif decide (k>0)then(m (i64.wrap (c+1),f))
 else(p (c,f)))
 N (1,o) (U2 fun j h =>
 Ap (X:=Int×List Int) (Y:=(List Int)) (U2 fun d a n q =>
 bif decide (d>0)then(chk (decide (0<=IntKind.u64.wrap (7*(IntKind.u64.wrap d)))) <|
 let l:Int:=g.fdiv (2 ^ (min (IntKind.u64.wrap (7*(IntKind.u64.wrap d))).toNat 64))
 chk (decide ((a.length+1)*2<=140737488355328)) <|
 let e:List Int:=a++([IntKind.u8.wrap (Bi .or .i64 (Bi .and .i64 l 127) 128)]:List Int)
 n (i64.wrap (d - (1:Int)),e))
 else(q a))
 N (i64.wrap (j - (1:Int)),h) (fun b =>
 chk (decide ((b.length+1)*2<=140737488355328)) <|
 some (b++([IntKind.u8.wrap (Bi .and .i64 g 127)]:List Int))))
abbrev AdD:Type:=Bs×Int
def OI (N:Nat) (j:Bs):Option AdD :=
 Ac (Um N j) fun c =>
 bif c.isEmpty then(some (([]:Bs),11))
 else(chk (decide (0<(c.length:Int))) <|
 chk (decide (1<(c.length:Int))) <|
 let g:Int:=i64.wrap ((i64.wrap (40*(c.getD 0 0)))+(c.getD 1 0))
 Ac (XT N ([]:List Int) g) fun e =>
 chk (decide (2<=(c.length:Int))) <|
 Ap (X:=Int×List Int) (Y:=(List Int)) (U2 fun d a h k =>
 bif decide (d<((AA c 2 c.length).length:Int))then(chk (decide (0<=d)) <|
 chk (decide (d<((AA c 2 c.length).length:Int))) <|
 Ac (XT N a ((AA c 2 c.length).getD d.toNat 0)) fun f =>
 h (i64.wrap (d+1),f))
 else(k a))
 N (0,e) (fun b =>
 chk (List.all b isByte) <|
 some (List.map byteOf b,0)))
abbrev rQ:Type:=Bs×Bool
def Gy (N:Nat) (d:Bool) (e:Bs):Option rQ :=
 Ac (OI N e) fun c =>
 Ac (BK N d c.1 c.2) fun a =>
 Ac (Aj N a.2 6 ([a.1]:List Bs)) fun b =>
 some (b.1,b.2)
abbrev X5:Type:=Bs×Bool
def Et (N:Nat) (k:Bool) (h:Yq4):Option X5 :=
 Ap (X:=Int×Bool×List Bs) (Y:=(Bool×List Bs)) (U3 fun b d a j l =>
 bif decide (b<(h.2.2.2.2.1.length:Int))then(chk (decide (0<=b)) <|
 chk (decide (b<(h.2.2.2.2.1.length:Int))) <|
 Ac (Gy N d (h.2.2.2.2.1.getD b.toNat [])) fun f =>
 chk (decide ((a.length+1)*17<=140737488355328)) <|
 j (i64.wrap (b+1),f.2,a++([f.1]:List Bs)))
 else(l (d,a)))
 N (0,k,([]:List Bs)) (U2 fun e c =>
 Ac (AZ N e c) fun g =>
 some (g.1,g.2))
abbrev X0:Type:=Bs×Bool
def Es (N:Nat) (l:Bool) (j:Yq4):Option X0 :=
 Ap (X:=Int×Bool×List Bs) (Y:=(Bool×List Bs)) (U3 fun b d a k m =>
 bif decide (b<(j.2.2.2.2.2.1.length:Int))then(chk (decide (0<=b)) <|
 chk (decide (b<(j.2.2.2.2.2.1.length:Int))) <|
 Ac (Gy N d (j.2.2.2.2.2.1.getD b.toNat [])) fun f =>
 Ac (AZ N f.2 ([f.1]:List Bs)) fun g =>
 chk (decide ((a.length+1)*17<=140737488355328)) <|
 k (i64.wrap (b+1),g.2,a++([g.1]:List Bs)))
 else(m (d,a)))
 N (0,l,([]:List Bs)) (U2 fun e c =>
 Ac (AZ N e c) fun h =>
 some (h.1,h.2))
abbrev Xw:Type:=Bs×Bool
def Ep (N:Nat) (m:Bool) (f:Yq4):Option Xw :=
 Ap (X:=Int×Bool×List Bs) (Y:=(Bool×List Bs)) (U3 fun b d a l n =>
 bif decide (b<(f.2.2.2.2.2.2.1.length:Int))then(chk (decide (0<=b)) <|
 chk (decide (b<(f.2.2.2.2.2.2.1.length:Int))) <|
 Ac (Gy N d ((f.2.2.2.2.2.2.1.getD b.toNat ([],[])).1)) fun g =>
 Ac (Gy N g.2 ((f.2.2.2.2.2.2.1.getD b.toNat ([],[])).2)) fun h =>
 Ac (AZ N h.2 ([g.1,h.1]:List Bs)) fun j =>
 chk (decide ((a.length+1)*17<=140737488355328)) <|
 l (i64.wrap (b+1),j.2,a++([j.1]:List Bs)))
 else(n (d,a)))
 N (0,m,([]:List Bs)) (U2 fun e c =>
 Ac (AZ N e c) fun k =>
 some (k.1,k.2))
abbrev ZO:Type:=Bs×Bool
def Fz (N:Nat) (m:Bool) (k:Yq4):Option ZO :=
 Ap (X:=Int×Bool×List Bs×List Int) (Y:=(Bool×List Bs)) (U4 fun a d c b j n =>
 bif decide (a<2)then(chk (decide (0<=a)) <|
 chk (decide (a<(b.length:Int))) <|
 chk (decide (a.toNat<b.length)) <|
 bif ((b.getD a.toNat 0) != ((-1):Int))then(Ac (Gx N (b.getD a.toNat 0)) fun l =>
 Ac (Aj N d (i64.wrap (128+a)) ([l]:List Bs)) fun g =>
 chk (decide (0<=a)) <|
 chk (decide (a<(c.length:Int))) <|
 chk (decide (a.toNat<c.length)) <|
 j (i64.wrap (a+1),g.2,c.set a.toNat g.1,b))
 else(j (i64.wrap (a+1),d,c,b)))
 else(n (d,c)))
 N (0,m,([([]:Bs),([]:Bs)]:List Bs),([k.2.2.2.2.2.2.2.1,k.2.2.2.2.2.2.2.2.1]:List Int)) (U2 fun f e =>
 Ac (AZ N f e) fun h =>
 some (h.1,h.2))
abbrev Yx:Type:=Bs×Bool
def EL (N:Nat) (b:Bool) (c:Yq4):Option Yx :=
 Ac (Jc N b c.2.2.2.2.2.2.2.2.2.1) fun a =>
 some (a.1,a.2)
abbrev UX:Type:=Bs×Int
def Gw (N:Nat) (e:Bs×Int×Bs):Option UX :=
 Ac (OI N e.1) fun a =>
 bif (a.2 != (0:Int))then(some (([]:Bs),a.2))
 else(Ac (Cb N 6 ([a.1]:List Bs)) fun b =>
 bif (b.2 != (0:Int))then(some (([]:Bs),b.2))
 else(Ac (Cb N e.2.1 ([e.2.2]:List Bs)) fun c =>
 bif (c.2 != (0:Int))then(some (([]:Bs),c.2))
 else(Ac (Cb N 48 ([b.1,c.1]:List Bs)) fun d =>
 some (d.1,d.2))))
abbrev yP:Type:=Bs×Int
def Ox (N:Nat) (j:List Yq0):Option yP :=
 Ac (Gh N j) fun m =>
 bif (m != (0:Int))then(some (([]:Bs),m))
 else(Ap (X:=Int×List Bs) (Y:=(List Bs)) (U2 fun b c q s =>
 bif decide (b<(j.length:Int))then(chk (decide (0<=b)) <|
 chk (decide (b<(j.length:Int))) <|
 Ap (X:=Int×List Bs×List Bs) (Y:=(List Bs×List Bs)) (U3 fun f a d r t =>
 let p:Bool:=decide (f<((j.getD b.toNat []).length:Int))
 bif p then(chk (decide (0<=f)) <|
 chk (decide (f<((j.getD b.toNat []).length:Int))) <|
 Ac (Gw N ((j.getD b.toNat []).getD f.toNat ([],0,[]))) fun k =>
 bif (k.2 != (0:Int))then(some (([]:Bs),k.2))
 else(chk (decide ((a.length+1)*17<=140737488355328)) <|
 r (i64.wrap (f+1),a++([k.1]:List Bs),d)))
 else(t (a,d)))
 N (0,([]:List Bs),c) (U2 fun g e =>
 Ac (Lp N g) fun o =>
 Ac (Cb N 49 ([o]:List Bs)) fun l =>
 bif (l.2 != (0:Int))then(some (([]:Bs),l.2))
 else(chk (decide ((e.length+1)*17<=140737488355328)) <|
 q (i64.wrap (b+1),e++([l.1]:List Bs)))))
 else(s c))
 N (0,([]:List Bs)) (fun h =>
 Ac (Cb N 48 h) fun n =>
 some (n.1,n.2)))
abbrev zD:Type:=Bs×Int
def Gq (N:Nat) (a:Yq1) (f:Bool):Option zD :=
 Ac (GR N a f) fun c =>
 bif (c != (0:Int))then(some (([]:Bs),c))
 else(bif (a.1 != (4:Int))then(Ac (Cb N (i64.wrap (128+a.1)) ([a.2.1]:List Bs)) fun d =>
 some (d.1,d.2))
 else(Ac (Ox N a.2.2) fun b =>
 bif (b.2 != (0:Int))then(some (([]:Bs),b.2))
 else(Ac (Cb N (i64.wrap (160+a.1)) ([b.1]:List Bs)) fun e =>
 some (e.1,e.2))))
abbrev Abt:Type:=Int
def MM (N:Nat) (a:Int):Option Abt :=
 bif (a==0)then(some 7)
 else(bif decide (a>16)then(some 2)
 else(some 0))
abbrev dY:Type:=Bs×Int
def FT (N:Nat) (d:List Yq1):Option dY :=
 Ac (MM N (d.length:Int)) fun e =>
 bif (e != (0:Int))then(some (([]:Bs),e))
 else(Ap (X:=Bs×Int) (Y:=Bs) (U2 fun c a g h =>
 bif decide (a<(d.length:Int))then(chk (decide (0<=a)) <|
 chk (decide (a<(d.length:Int))) <|
 Ac (Gq N (d.getD a.toNat (0,[],[])) false) fun b =>
 bif (b.2 != (0:Int))then(some (([]:Bs),b.2))
 else(chk (decide (c.length+b.1.length<=140737488355328)) <|
 g (c++b.1,i64.wrap (a+1))))
 else(h c))
 N (([]:Bs),0) (fun f =>
 some (f,0)))
abbrev cO:Type:=Bs×Bool
def FP (N:Nat) (d:Bool) (e:Yq4):Option cO :=
 Ac (FT N e.2.2.2.2.2.2.2.2.2.2.1) fun c =>
 Ac (BK N d c.1 c.2) fun a =>
 Ac (AZ N a.2 ([a.1]:List Bs)) fun b =>
 some (b.1,b.2)
abbrev Zq:Type:=Bs×Int
def DY (N:Nat) (j:Int) (f:List Yq1):Option Zq :=
 bif ((f.length:Int)==0)then(some (([]:Bs),0))
 else(Ap (X:=Int×List Bs) (Y:=(List Bs)) (U2 fun b a h k =>
 bif decide (b<(f.length:Int))then(chk (decide (0<=b)) <|
 chk (decide (b<(f.length:Int))) <|
 Ac (Gq N (f.getD b.toNat (0,[],[])) true) fun d =>
 bif (d.2 != (0:Int))then(some (([]:Bs),d.2))
 else(Ac (Cb N 48 ([d.1]:List Bs)) fun e =>
 bif (e.2 != (0:Int))then(some (([]:Bs),e.2))
 else(chk (decide ((a.length+1)*17<=140737488355328)) <|
 h (i64.wrap (b+1),a++([e.1]:List Bs)))))
 else(k a))
 N (0,([]:List Bs)) (fun c =>
 Ac (Cb N j c) fun g =>
 some (g.1,g.2)))
abbrev qP:Type:=Bs×Int
def LV (N:Nat) (e:Yq6):Option qP :=
 Ac (Du N e) fun a =>
 bif (a != (0:Int))then(some (([]:Bs),a))
 else(Ac (DY N 160 e.1) fun b =>
 bif (b.2 != (0:Int))then(some (([]:Bs),2))
 else(Ac (DY N 161 e.2) fun c =>
 bif (c.2 != (0:Int))then(some (([]:Bs),2))
 else(Ac (Cb N 48 ([b.1,c.1]:List Bs)) fun d =>
 bif (d.2 != (0:Int))then(some (([]:Bs),2))
 else(some (d.1,0)))))
abbrev TF:Type:=Bs×Bool
def Ey (N:Nat) (d:Bool) (b:Yq4):Option TF :=
 Ac (LV N (b.2.2.2.2.2.2.2.2.2.2.2.2.1,b.2.2.2.2.2.2.2.2.2.2.2.2.2.1)) fun c =>
 Ac (BK N d c.1 c.2) fun a =>
 some (a.1,a.2)
abbrev Y0:Type:=Bs×Bool
def EM (N:Nat) (b:Bool) (c:Yq4):Option Y0 :=
 Ac (Aj N b 4 ([c.2.2.2.2.2.2.2.2.2.2.2.2.2.2.1]:List Bs)) fun a =>
 some (a.1,a.2)
abbrev VW:Type:=Bs×Bool
def Ea (N:Nat) (c:Bool) (d:Yq4):Option VW :=
 Ac (Aj N c 128 ([d.2.2.2.2.2.2.2.2.2.2.2.2.2.2.2.1]:List Bs)) fun a =>
 Ac (AZ N a.2 ([a.1]:List Bs)) fun b =>
 some (b.1,b.2)
abbrev VN:Type:=Bs×Int
def EY (N:Nat) (g:List Yq2):Option VN :=
 bif ((g.length:Int)==0)then(some (([]:Bs),7))
 else(Ac (BO N g) fun y =>
 bif (y != (0:Int))then(some (([]:Bs),y))
 else(Ap (X:=Int×Bool×List Bs) (Y:=(Bool×List Bs)) (U3 fun a c d aq ar =>
 bif decide (a<(g.length:Int))then(chk (decide (0<=a)) <|
 chk (decide (a<(g.length:Int))) <|
 GL (α :=List Yq1×Int×Bool×List Yq0×Bool×List Bs×List Bs) (fun al =>
 let ap:Int:=(((g.getD a.toNat ([],0,false,[])).1).length:Int)
 bif decide (ap>0)then(Ac (FT N ((g.getD a.toNat ([],0,false,[])).1)) fun z =>
 Ac (BK N c z.1 z.2) fun aa =>
 Ac (Aj N aa.2 160 ([aa.1]:List Bs)) fun ab =>
 Ac (Aj N ab.2 160 ([ab.1]:List Bs)) fun ac =>
 al ((g.getD a.toNat ([],0,false,[])).1,(g.getD a.toNat ([],0,false,[])).2.1,(g.getD a.toNat ([],0,false,[])).2.2.1,(g.getD a.toNat ([],0,false,[])).2.2.2,ac.2,([ac.1,([]:Bs),([]:Bs)]:List Bs),d))
 else(al ((g.getD a.toNat ([],0,false,[])).1,(g.getD a.toNat ([],0,false,[])).2.1,(g.getD a.toNat ([],0,false,[])).2.2.1,(g.getD a.toNat ([],0,false,[])).2.2.2,c,([([]:Bs),([]:Bs),([]:Bs)]:List Bs),d)))
 (U7 fun h b j k l e n =>
 GL (α :=List Yq1×Int×Bool×List Yq0×Bool×List Bs×List Bs) (fun am =>
 bif (b != (0:Int))then(Ac (Ih N b) fun ad =>
 Ac (BK N l ad.1 ad.2) fun ae =>
 Ac (Aj N ae.2 129 ([ae.1]:List Bs)) fun af =>
 chk (decide (1<(e.length:Int))) <|
 chk (decide (1<e.length)) <|
 am (h,b,j,k,af.2,e.set 1 af.1,n))
 else(am (h,b,j,k,l,e,n)))
 (U7 fun w x q r m f o =>
 GL (α :=Bool×List Bs×List Bs) (fun an =>
 bif q then(Ac (Gq N (4,([]:Bs),r) false) fun ag =>
 Ac (BK N m ag.1 ag.2) fun ah =>
 Ac (Aj N ah.2 162 ([ah.1]:List Bs)) fun ai =>
 chk (decide (2<(f.length:Int))) <|
 chk (decide (2<f.length)) <|
 an (ai.2,f.set 2 ai.1,o))
 else(an (m,f,o)))
 (U3 fun s v p =>
 Ac (AZ N s v) fun aj =>
 chk (decide ((p.length+1)*17<=140737488355328)) <|
 aq (i64.wrap (a+1),aj.2,p++([aj.1]:List Bs))))))
 else(ar (c,d)))
 N (0,false,([]:List Bs)) (U2 fun t u =>
 Ac (AZ N t u) fun ak =>
 Ac (Jb N ak.2) fun ao =>
 bif ao.1 then(some (([]:Bs),2))
 else(some (ak.1,0)))))
abbrev ZQ:Type:=Bs×Bool
def G7 (N:Nat) (c:Bool) (d:Yq4):Option ZQ :=
 Ac (EY N d.2.2.2.2.2.2.2.2.2.2.2.2.2.2.2.2.1) fun b =>
 Ac (BK N c b.1 b.2) fun a =>
 some (a.1,a.2)
abbrev Xt:Type:=Bs×Bool
def FD (N:Nat) (c:Bool) (d:Yq4):Option Xt :=
 Ac (EY N d.2.2.2.2.2.2.2.2.2.2.2.2.2.2.2.2.2.1) fun b =>
 Ac (BK N c b.1 b.2) fun a =>
 some (a.1,a.2)
def yJ (N n:Nat) (a:Bool×Yq4):Option (Bs×Bool) :=
  bif Nat.beq n 112 then FO N a.1 a.2 else
  bif Nat.beq n 115 then FQ N a.1 a.2 else
  bif Nat.beq n 118 then Et N a.1 a.2 else
  bif Nat.beq n 121 then Es N a.1 a.2 else
  bif Nat.beq n 124 then Ep N a.1 a.2 else
  bif Nat.beq n 127 then Fz N a.1 a.2 else
  bif Nat.beq n 130 then EL N a.1 a.2 else
  bif Nat.beq n 133 then FP N a.1 a.2 else
  bif Nat.beq n 136 then Ey N a.1 a.2 else
  bif Nat.beq n 139 then EM N a.1 a.2 else
  bif Nat.beq n 142 then Ea N a.1 a.2 else
  bif Nat.beq n 145 then G7 N a.1 a.2 else
  bif Nat.beq n 148 then FD N a.1 a.2 else
  none
abbrev mW:Type:=Yq3×Int
def FM (N:Nat) (x:Yq4):Option mW :=
 Ac (Ia N x) fun ax =>
 bif (ax != (0:Int))then(some (([]:List (Bs×Bool×Bs)),ax))
 else(Ac (Gm N) fun w =>
 Ap (X:=Int×Bool×Bool×Int×Int×List Bs×List Bs×(List (Bs×Bs))×Int×Int×Int×List Yq1×Bool×List Yq1×List Yq1×Bs×Bs×List Yq2×List Yq2×(List (Bs×Bool×Bs))×Bool×List (Bs×Bool×Bs)) (Y:=(Bool×Bool×Int×Int×List Bs×List Bs×(List (Bs×Bs))×Int×Int×Int×List Yq1×Bool×List Yq1×List Yq1×Bs×Bs×List Yq2×List Yq2×(List (Bs×Bool×Bs))×Bool×List (Bs×Bool×Bs))) (U22 fun a l m n o p q r s t u b c d e f g h j k y v az aE =>
 bif decide (a<(w.length:Int))then(chk (decide (0<=a)) <|
 chk (decide (a<(w.length:Int))) <|
 Ac (iM N ((w.getD a.toNat ([],0,0,0,0)).2.2.1) (l,m,n,o,p,q,r,s,t,u,b,c,d,e,f,g,h,j,k)) fun aA =>
 bif aA then(chk (((!(((w.getD a.toNat ([],0,0,0,0)).2.1)==1))||(!(!(((w.getD a.toNat ([],0,0,0,0)).2.1)==1))))) <|
 chk ((!(((w.getD a.toNat ([],0,0,0,0)).2.1)==1))||(!(!(((w.getD a.toNat ([],0,0,0,0)).2.1)==1)))) <|
 let aC:Bool:=(((w.getD a.toNat ([],0,0,0,0)).1)==([50,46,53,46,50,57,46,51,51]:Bs))
 chk (bif (((w.getD a.toNat ([],0,0,0,0)).2.1)==1)then true else !(((w.getD a.toNat ([],0,0,0,0)).2.1)==1)) <|
 chk (bif (((w.getD a.toNat ([],0,0,0,0)).2.1)==1)then true else true) <|
 let aD:Bool:=bif (((w.getD a.toNat ([],0,0,0,0)).2.1)==1)then true else aC
 Ac (yJ N ((w.getD a.toNat ([],0,0,0,0)).2.2.2.1) (y,(l,m,n,o,p,q,r,s,t,u,b,c,d,e,f,g,h,j,k))) fun ay =>
 chk (decide ((v.length+1)*41<=140737488355328)) <|
 let ac:List (Bs×Bool×Bs):=v++([((w.getD a.toNat ([],0,0,0,0)).1,aD,ay.1)]:List (Bs×Bool×Bs))
 az (i64.wrap (a+1),l,m,n,o,p,q,r,s,t,u,b,c,d,e,f,g,h,j,k,ay.2,ac))
 else(az (i64.wrap (a+1),l,m,n,o,p,q,r,s,t,u,b,c,d,e,f,g,h,j,k,y,v)))
 else(aE (l,m,n,o,p,q,r,s,t,u,b,c,d,e,f,g,h,j,k,y,v)))
 N (0,x.1,x.2.1,x.2.2.1,x.2.2.2.1,x.2.2.2.2.1,x.2.2.2.2.2.1,x.2.2.2.2.2.2.1,x.2.2.2.2.2.2.2.1,x.2.2.2.2.2.2.2.2.1,x.2.2.2.2.2.2.2.2.2.1,x.2.2.2.2.2.2.2.2.2.2.1,x.2.2.2.2.2.2.2.2.2.2.2.1,x.2.2.2.2.2.2.2.2.2.2.2.2.1,x.2.2.2.2.2.2.2.2.2.2.2.2.2.1,x.2.2.2.2.2.2.2.2.2.2.2.2.2.2.1,x.2.2.2.2.2.2.2.2.2.2.2.2.2.2.2.1,x.2.2.2.2.2.2.2.2.2.2.2.2.2.2.2.2.1,x.2.2.2.2.2.2.2.2.2.2.2.2.2.2.2.2.2.1,x.2.2.2.2.2.2.2.2.2.2.2.2.2.2.2.2.2.2,false,([]:List (Bs×Bool×Bs))) (U21 fun al am an ao ap aq ar au av aw ad ae af ag ah ai aj ak z ab aa =>
 Ac (Jb N ab) fun aB =>
 bif aB.1 then(some (([]:List (Bs×Bool×Bs)),2))
 else(chk (decide ((aa.length+z.length)*41<=140737488355328)) <|
 some (aa++z,0))))
abbrev xY:Type:=Yq4
def KO (N:Nat):Option xY :=
 some (false,false,(-1),0,([]:List Bs),([]:List Bs),([]:List (Bs×Bs)),(-1),(-1),(-1),([]:List Yq1),false,([]:List Yq1),([]:List Yq1),([]:Bs),([]:Bs),([]:List Yq2),([]:List Yq2),([]:List (Bs×Bool×Bs)))
abbrev Ab6:Type:=Bool
def Qo (N:Nat):Option Ab6 :=
 Ac (KO N) fun a =>
 Ac (FM N (true,true,0,a.2.2.2.1,a.2.2.2.2.1,a.2.2.2.2.2.1,a.2.2.2.2.2.2.1,a.2.2.2.2.2.2.2.1,a.2.2.2.2.2.2.2.2.1,a.2.2.2.2.2.2.2.2.2.1,a.2.2.2.2.2.2.2.2.2.2.1,a.2.2.2.2.2.2.2.2.2.2.2.1,a.2.2.2.2.2.2.2.2.2.2.2.2.1,a.2.2.2.2.2.2.2.2.2.2.2.2.2.1,a.2.2.2.2.2.2.2.2.2.2.2.2.2.2.1,a.2.2.2.2.2.2.2.2.2.2.2.2.2.2.2.1,a.2.2.2.2.2.2.2.2.2.2.2.2.2.2.2.2.1,a.2.2.2.2.2.2.2.2.2.2.2.2.2.2.2.2.2.1,a.2.2.2.2.2.2.2.2.2.2.2.2.2.2.2.2.2.2)) fun c =>
 Ac (KO N) fun h =>
 Ac (FM N h) fun g =>
 Au (c.2==0) fun d =>
 chk (d||!d) <|
 chk (d||!d) <|
 chk (bif d then d else true) <|
 chk (bif d then true else true) <|
 Au (bif d then((c.1.length:Int)==1)else false) fun k =>
 Au (k) fun b =>
 chk (b||!b) <|
 chk ((decide (0<(c.1.length:Int)))||!b) <|
 chk (b||!b) <|
 chk (b||!b) <|
 chk (b||!b) <|
 let j:Bool:=((((c.1.getD 0 ([],false,[])).1)==([50,46,53,46,50,57,46,49,57]:Bs))&&((((c.1.getD 0 ([],false,[])).2.1)==true)&&((((c.1.getD 0 ([],false,[])).2.2)==([48,6,1,1,255,2,1,0]:Bs))&&true)))
 chk (bif b then b else true) <|
 chk (bif b then true else true) <|
 Au (bif b then j else false) fun l =>
 Au (l) fun f =>
 chk (f||!f) <|
 chk (bif f then f else true) <|
 chk (bif f then true else true) <|
 Au (bif f then(g.2==0)else false) fun m =>
 Au (m) fun e =>
 chk (e||!e) <|
 chk (e||!e) <|
 chk (bif e then e else true) <|
 chk (bif e then true else true) <|
 Au (bif e then((g.1.length:Int)==0)else false) fun n =>
 some n
abbrev AdW:Type:=Yq4
def Zg (N:Nat):Option AdW :=
 some (false,false,(-1),0,([]:List Bs),([]:List Bs),([]:List (Bs×Bs)),(-1),(-1),(-1),([]:List Yq1),false,([]:List Yq1),([]:List Yq1),([]:Bs),([]:Bs),([]:List Yq2),([]:List Yq2),([]:List (Bs×Bool×Bs)))
abbrev pG:Type:=Int×List Int×Int
def Aw (N:Nat) (a:List Int×Int) (b:Int):Option pG :=
 bif decide (a.2>=(a.1.length:Int))then(some (0,a))
 else(chk (decide (0<=i64.wrap ((i64.wrap (a.2+1)) - (1:Int)))) <|
 chk (decide (i64.wrap ((i64.wrap (a.2+1)) - (1:Int))<(a.1.length:Int))) <|
 let c:Int:=(a.1.getD ((i64.wrap ((i64.wrap (a.2+1)) - (1:Int))).toNat) 0)
 chk (b != 0) <|
 chk (b != 0) <|
 some ((i64.wrap ((c.tmod b)+b)).tmod b,(a.1,i64.wrap (a.2+1))))
abbrev pK:Type:=(Bs×Int×Bs)×List Int×Int
def LP (N:Nat) (b:List Int×Int):Option pK :=
 Ac (Aw N b 12) fun a =>
 chk (decide (0<=a.1)) <|
 chk (decide (a.1<12)) <|
 chk (decide (a.1.toNat<12)) <|
 some ((([(([50,46,53,46,52,46,51]:Bs),12,([65,110,110]:Bs)),(([50,46,53,46,52,46,51]:Bs),19,([32,97,110,110]:Bs)),(([50,46,53,46,52,46,51]:Bs),12,([103,114,195,182,195,159,101]:Bs)),(([50,46,53,46,52,46,54]:Bs),19,([85,83]:Bs)),(([50,46,53,46,52,46,49,48]:Bs),19,([69,120,97,109,112,108,101,32,32,67,111,114,112]:Bs)),(([50,46,53,46,52,46,49,48]:Bs),12,([101,120,97,109,112,108,101,32,99,111,114,112]:Bs)),(([50,46,53,46,52,46,49,49]:Bs),22,([97,44,98,43,99,61,100,92,101]:Bs)),(([48,46,57,46,50,51,52,50,46,49,57,50,48,48,51,48,48,46,49,48,48,46,49,46,50,53]:Bs),22,([111,114,103]:Bs)),(([49,46,50,46,56,52,48,46,49,49,51,53,52,57,46,49,46,57,46,49]:Bs),22,([97,110,110,64,101,120,97,109,112,108,101,46,111,114,103]:Bs)),(([49,46,50,46,56,52,48,46,49,49,51,53,52,57,46,49,46,57,46,49]:Bs),22,([110,111,32,97,100,100,114,101,115,115]:Bs)),(([50,46,53,46,52,46,57,57]:Bs),19,([120]:Bs)),(([50,46,53,46,52,46,55]:Bs),12,([76]:Bs))]:List (Bs×Int×Bs)).getD a.1.toNat ([],0,[])),a.2)
abbrev AeI:Type:=List Yq0×List Int×Int
def QJ (N:Nat) (x:List Int×Int):Option AeI :=
 Ac (Aw N x 4) fun m =>
 Ap (X:=Int×List Int×Int×List Yq0) (Y:=(List Int×Int×List Yq0)) (U4 fun t h k c w y =>
 bif decide (t>0)then(Ac (Aw N (h,k) 5) fun n =>
 Ap (X:=Int×List Int×Int×(List (Bs×Int×Bs))×List Yq0) (Y:=(List Int×Int×(List (Bs×Int×Bs))×List Yq0)) (U5 fun o j l a b u z =>
 bif decide (o>0)then(Ac (LP N (j,l)) fun e =>
 chk ((!((a.length:Int)==0))||(!(!((a.length:Int)==0)))) <|
 chk ((decide (0<(a.length:Int)))||(!(!((a.length:Int)==0)))) <|
 chk ((!((a.length:Int)==0))||(!(!((a.length:Int)==0)))) <|
 chk ((decide (0<a.length))||(!(!((a.length:Int)==0)))) <|
 chk ((!((a.length:Int)==0))||(!(!((a.length:Int)==0)))) <|
 chk ((decide (0<a.length))||(!(!((a.length:Int)==0)))) <|
 chk ((!((a.length:Int)==0))||(!(!((a.length:Int)==0)))) <|
 chk ((!((a.length:Int)==0))||(!(!((a.length:Int)==0)))) <|
 chk ((!((a.length:Int)==0))||(!(!((a.length:Int)==0)))) <|
 chk (bif ((a.length:Int)==0)then true else !((a.length:Int)==0)) <|
 chk (bif ((a.length:Int)==0)then true else true) <|
 let v:Bool:=bif ((a.length:Int)==0)then true else !(((a.getD 0 ([],0,[])).1)==e.1.1)
 bif v then(chk (decide ((a.length+1)*41<=140737488355328)) <|
 u (i64.wrap (o - (1:Int)),e.2.1,e.2.2,a++([e.1]:List (Bs×Int×Bs)),b))
 else(u (i64.wrap (o - (1:Int)),e.2.1,e.2.2,a,b)))
 else(z (j,l,a,b)))
 N (i64.wrap (1+(i64.wrap (n.1.tdiv 4))),n.2.1,n.2.2,([]:List (Bs×Int×Bs)),c) (U4 fun p r f d =>
 chk (decide ((d.length+1)*25<=140737488355328)) <|
 w (i64.wrap (t - (1:Int)),p,r,d++([f]:List Yq0))))
 else(y (h,k,c)))
 N (m.1,m.2.1,m.2.2,([]:List Yq0)) (U3 fun q s g =>
 some (g,(q,s)))
abbrev zU:Type:=Yq1×List Int×Int
def Jg (N:Nat) (j:List Int×Int):Option zU :=
 Ac (Aw N j 4) fun c =>
 bif (c.1==0)then(Ac (Aw N c.2 6) fun d =>
 chk (decide (0<=d.1)) <|
 chk (decide (d.1<6)) <|
 chk (decide (d.1.toNat<6)) <|
 let f:Bs:=(([([97,110,110,64,101,120,97,109,112,108,101,46,111,114,103]:Bs),([65,78,78,64,101,120,97,109,112,108,101,46,111,114,103]:Bs),([97,110,110,64,69,120,97,109,112,108,101,46,79,82,71]:Bs),([98,46,99,64,109,97,105,108,46,101,120,97,109,112,108,101,46,111,114,103]:Bs),([120,64,111,114,103]:Bs),([97,39,98,64,97,46,98]:Bs)]:List Bs).getD d.1.toNat [])
 some ((1,f,([]:List Yq0)),d.2))
 else(bif (c.1==1)then(Ac (Aw N c.2 7) fun a =>
 chk (decide (0<=a.1)) <|
 chk (decide (a.1<7)) <|
 chk (decide (a.1.toNat<7)) <|
 let g:Bs:=(([([101,120,97,109,112,108,101,46,111,114,103]:Bs),([119,119,119,46,101,120,97,109,112,108,101,46,111,114,103]:Bs),([87,87,87,46,69,120,97,109,112,108,101,46,111,114,103]:Bs),([42,46,101,120,97,109,112,108,101,46,111,114,103]:Bs),([97,46,98]:Bs),([111,114,103]:Bs),([109,121,101,120,97,109,112,108,101,46,111,114,103]:Bs)]:List Bs).getD a.1.toNat [])
 some ((2,g,([]:List Yq0)),a.2))
 else(bif (c.1==2)then(Ac (Aw N c.2 4) fun b =>
 chk (decide (0<=b.1)) <|
 chk (decide (b.1<4)) <|
 chk (decide (b.1.toNat<4)) <|
 let h:Bs:=(([([10,0,0,1]:Bs),([10,1,2,3]:Bs),([192,168,1,7]:Bs),([32,1,13,184,0,0,0,0,0,0,0,0,0,0,0,1]:Bs)]:List Bs).getD b.1.toNat [])
 some ((7,h,([]:List Yq0)),b.2))
 else(Ac (QJ N c.2) fun e =>
 some ((4,([]:Bs),e.1),e.2))))
abbrev Ab8:Type:=Bs
def JV (N:Nat) (a:Int):Option Ab8 :=
 chk (decide (0<=a.tmod 9)) <|
 chk (decide (a.tmod 9<9)) <|
 chk (decide ((a.tmod 9).toNat<9)) <|
 let b:Bs:=(([([49,46,50,46,51,46,49]:Bs),([49,46,50,46,51,46,50]:Bs),([49,46,50,46,51,46,51]:Bs),([49,46,50,46,51,46,52]:Bs),([49,46,50,46,51,46,53]:Bs),([50,46,57,57,57,46,49]:Bs),([50,46,57,57,57,46,50]:Bs),([49,46,50,46,51]:Bs),([50,46,53,46,50,57,46,51,50,46,48]:Bs)]:List Bs).getD ((a.tmod 9).toNat) [])
 some b
abbrev AeK:Type:=List Bs×List Int×Int
def QK (N:Nat) (ad:List Int×Int) (ae:Bool):Option AeK :=
 Ac (Aw N ad 3) fun q =>
 Ap (X:=Int×List Int×Int×List Bs) (Y:=(List Int×Int×List Bs)) (U4 fun r j m b y af =>
 bif decide (r>0)then(Ac (Aw N (j,m) 9) fun p =>
 Ac (JV N p.1) fun z =>
 GL (α :=Bs×List Int×Int×List Bs) (fun x =>
 bif ae then(Ac (Aw N p.2 5) fun g =>
 chk (decide (0<=g.1)) <|
 chk (decide (g.1<5)) <|
 chk (decide (g.1.toNat<5)) <|
 let ab:Bs:=(([([49,46,51,46,54,46,49,46,53,46,53,46,55,46,51,46,49]:Bs),([49,46,51,46,54,46,49,46,53,46,53,46,55,46,51,46,50]:Bs),([49,46,51,46,54,46,49,46,53,46,53,46,55,46,51,46,51]:Bs),([49,46,51,46,54,46,49,46,53,46,53,46,55,46,51,46,52]:Bs),([50,46,53,46,50,57,46,51,55,46,48]:Bs)]:List Bs).getD g.1.toNat [])
 x (ab,g.2.1,g.2.2,b))
 else(x (z,p.2.1,p.2.2,b)))
 (U4 fun w s u f =>
 Ap (X:=Bool×Int×List Int×Int×List Bs) (Y:=(Bool×List Int×Int×List Bs)) (U5 fun d e k n a ac ag =>
 bif decide (e<(f.length:Int))then(chk (decide (0<=e)) <|
 chk (decide (e<(a.length:Int))) <|
 chk (decide (e.toNat<a.length)) <|
 chk (!d||(!!d)) <|
 chk (!d||(!!d)) <|
 chk (bif d then true else !d) <|
 chk (bif d then true else true) <|
 ac (bif d then true else(w==(a.getD e.toNat [])),i64.wrap (e+1),k,n,a))
 else(ag (d,k,n,a)))
 N (false,0,s,u,f) (U4 fun aa l o c =>
 bif !aa then(chk (decide ((c.length+1)*17<=140737488355328)) <|
 y (i64.wrap (r - (1:Int)),l,o,c++([w]:List Bs)))
 else(y (i64.wrap (r - (1:Int)),l,o,c)))))
 else(af (j,m,b)))
 N (i64.wrap (1+q.1),q.2.1,q.2.2,([]:List Bs)) (U3 fun t v h =>
 some (h,(t,v)))
abbrev uX:Type:=(List (Bs×Bs))×List Int×Int
def Nl (N:Nat) (ad:List Int×Int):Option uX :=
 Ac (Aw N ad 3) fun r =>
 Ap (X:=Int×List Int×Int×List (Bs×Bs)) (Y:=(List Int×Int×List (Bs×Bs))) (U4 fun t l o d x ae =>
 bif decide (t>0)then(Ac (Aw N (l,o) 9) fun w =>
 Ac (JV N w.1) fun y =>
 Ac (Aw N w.2 9) fun s =>
 Ac (JV N s.1) fun z =>
 Ap (X:=Bool×Int×List Int×Int×Bs×Bs×List (Bs×Bs)) (Y:=(Bool×List Int×Int×Bs×Bs×List (Bs×Bs))) (U7 fun g f m p b c a ac af =>
 bif decide (f<(d.length:Int))then(chk (decide (0<=f)) <|
 chk (decide (f<(a.length:Int))) <|
 chk (decide (f.toNat<a.length)) <|
 chk (!g||(!!g)) <|
 chk (!g||(!!g)) <|
 let ab:Bool:=((b==((a.getD f.toNat ([],[])).1))&&((c==((a.getD f.toNat ([],[])).2))&&true))
 chk (bif g then true else !g) <|
 chk (bif g then true else true) <|
 ac (bif g then true else ab,i64.wrap (f+1),m,p,b,c,a))
 else(af (g,m,p,b,c,a)))
 N (false,0,s.2.1,s.2.2,y,z,d) (U6 fun aa n q h j e =>
 bif !aa then(chk (decide ((e.length+1)*33<=140737488355328)) <|
 x (i64.wrap (t - (1:Int)),n,q,e++([(h,j)]:List (Bs×Bs))))
 else(x (i64.wrap (t - (1:Int)),n,q,e))))
 else(ae (l,o,d)))
 N (i64.wrap (1+r.1),r.2.1,r.2.2,([]:List (Bs×Bs))) (U3 fun u v k =>
 some (k,(u,v)))
abbrev AeE:Type:=Yq1×List Int×Int
def NT (N:Nat) (j:List Int×Int):Option AeE :=
 Ac (Aw N j 4) fun c =>
 bif (c.1==0)then(Ac (Aw N c.2 7) fun d =>
 chk (decide (0<=d.1)) <|
 chk (decide (d.1<7)) <|
 chk (decide (d.1.toNat<7)) <|
 let f:Bs:=(([([97,110,110,64,101,120,97,109,112,108,101,46,111,114,103]:Bs),([101,120,97,109,112,108,101,46,111,114,103]:Bs),([46,101,120,97,109,112,108,101,46,111,114,103]:Bs),([69,88,65,77,80,76,69,46,111,114,103]:Bs),([46,111,114,103]:Bs),([111,114,103]:Bs),([109,97,105,108,46,101,120,97,109,112,108,101,46,111,114,103]:Bs)]:List Bs).getD d.1.toNat [])
 some ((1,f,([]:List Yq0)),d.2))
 else(bif (c.1==1)then(Ac (Aw N c.2 7) fun a =>
 chk (decide (0<=a.1)) <|
 chk (decide (a.1<7)) <|
 chk (decide (a.1.toNat<7)) <|
 let g:Bs:=(([([101,120,97,109,112,108,101,46,111,114,103]:Bs),([119,119,119,46,101,120,97,109,112,108,101,46,111,114,103]:Bs),([]:Bs),([69,120,97,109,112,108,101,46,79,82,71]:Bs),([111,114,103]:Bs),([98]:Bs),([97,46,98]:Bs)]:List Bs).getD a.1.toNat [])
 some ((2,g,([]:List Yq0)),a.2))
 else(bif (c.1==2)then(Ac (Aw N c.2 5) fun b =>
 chk (decide (0<=b.1)) <|
 chk (decide (b.1<5)) <|
 chk (decide (b.1.toNat<5)) <|
 let h:Bs:=(([([10,0,0,0,255,0,0,0]:Bs),([10,1,0,0,255,255,0,0]:Bs),([0,0,0,0,0,0,0,0]:Bs),([10,1,2,3,255,255,255,255]:Bs),([32,1,0,0,0,0,0,0,0,0,0,0,0,0,0,0,255,255,0,0,0,0,0,0,0,0,0,0,0,0,0,0]:Bs)]:List Bs).getD b.1.toNat [])
 some ((7,h,([]:List Yq0)),b.2))
 else(Ac (QJ N c.2) fun e =>
 some ((4,([]:Bs),e.1),e.2))))
abbrev uU:Type:=Yq6×List Int×Int
def Nk (N:Nat) (z:List Int×Int):Option uU :=
 Ac (Aw N z 4) fun v =>
 Ap (X:=Int×List Int×Int×List Yq1) (Y:=(List Int×Int×List Yq1)) (U4 fun t g k c x aa =>
 bif decide (t>0)then(Ac (NT N (g,k)) fun n =>
 chk (decide ((c.length+1)*49<=140737488355328)) <|
 x (i64.wrap (t - (1:Int)),n.2.1,n.2.2,c++([n.1]:List Yq1)))
 else(aa (g,k,c)))
 N (v.1,v.2.1,v.2.2,([]:List Yq1)) (U3 fun q r f =>
 Ac (Aw N (q,r) 3) fun o =>
 Ap (X:=Int×List Int×Int×List Yq1×List Yq1) (Y:=(List Int×Int×List Yq1×List Yq1)) (U5 fun u h l e d y ab =>
 bif decide (u>0)then(Ac (NT N (h,l)) fun p =>
 chk (decide ((d.length+1)*49<=140737488355328)) <|
 y (i64.wrap (u - (1:Int)),p.2.1,p.2.2,e,d++([p.1]:List Yq1)))
 else(ab (h,l,e,d)))
 N (o.1,o.2.1,o.2.2,f,([]:List Yq1)) (U4 fun j m a b =>
 chk (((a.length:Int)==0)||(!((a.length:Int)==0))) <|
 chk (((a.length:Int)==0)||(!((a.length:Int)==0))) <|
 chk (((a.length:Int)==0)||(!((a.length:Int)==0))) <|
 chk (bif ((a.length:Int)==0)then((a.length:Int)==0)else true) <|
 chk (bif ((a.length:Int)==0)then true else true) <|
 let w:Bool:=bif ((a.length:Int)==0)then((b.length:Int)==0)else false
 bif w then(Ac (NT N (j,m)) fun s =>
 chk (decide ((b.length+1)*49<=140737488355328)) <|
 some ((a,b++([s.1]:List Yq1)),s.2))
 else(some ((a,b),(j,m)))))
abbrev WG:Type:=Bs
def Aam (N:Nat) (F:Int->Option WG) (a:Int):Option WG :=
 bif decide (a<10)then(chk (List.all ([IntKind.u8.wrap (i64.wrap (48+a))]:List Int) isByte) <|
 let d:Bs:=List.map byteOf ([IntKind.u8.wrap (i64.wrap (48+a))]:List Int)
 some d)
 else(Ac (F (i64.wrap (a.tdiv 10))) fun b =>
 chk (List.all ([IntKind.u8.wrap (i64.wrap (48+(a.tmod 10)))]:List Int) isByte) <|
 let c:Bs:=List.map byteOf ([IntKind.u8.wrap (i64.wrap (48+(a.tmod 10)))]:List Int)
 chk (decide (b.length+c.length<=140737488355328)) <|
 some (b++c))
def VD (N:Nat):Nat->Int->Option WG
  | 0=>fun a=>none
  | n+1=>fun a=>Aam N (VD N n) a
abbrev pF:Type:=List Yq0
def Jf (N:Nat) (a:Int):Option pF :=
 Ac (VD N N (i64.wrap ((a.tmod 8).tdiv 2))) fun e =>
 chk (decide (3+e.length<=140737488355328)) <|
 GL (α :=Bs) (fun d =>
 bif decide ((a.tmod 16)>=8)then(Ac (VD N N (i64.wrap ((a.tmod 8).tdiv 2))) fun b =>
 chk (decide (5+b.length<=140737488355328)) <|
 d (([32,99,97,32,32]:Bs)++b))
 else(d (([67,65,32]:Bs)++e)))
 (fun c =>
 bif ((a.tmod 2)==1)then(some ([([(([50,46,53,46,52,46,49,48]:Bs),19,c)]:List (Bs×Int×Bs)),([(([50,46,53,46,52,46,49,49]:Bs),12,([85,110,105,116]:Bs))]:List (Bs×Int×Bs))]:List Yq0))
 else(some ([([(([50,46,53,46,52,46,49,48]:Bs),19,c)]:List (Bs×Int×Bs))]:List Yq0)))
abbrev AbA:Type:=List Yq2×List Int×Int
def MO (N:Nat) (x:List Int×Int):Option AbA :=
 Ac (Aw N x 3) fun t =>
 Ap (X:=Int×List Int×Int×List Yq2) (Y:=(List Int×Int×List Yq2)) (U4 fun s h j a w y =>
 bif decide (s>0)then(Ac (Jg N (h,j)) fun m =>
 Ac (Aw N m.2 6) fun c =>
 chk (decide (0<=c.1)) <|
 chk (decide (c.1<6)) <|
 chk (decide (c.1.toNat<6)) <|
 GL (α :=List Int×Int×Int×Bool×List Yq0×List Yq1×List Yq2) (fun u =>
 Ac (Aw N c.2 3) fun k =>
 bif (k.1==2)then(Ac (Aw N k.2 16) fun n =>
 Ac (Jf N n.1) fun v =>
 u (n.2.1,n.2.2,(([0,0,510,2,64,384]:List Int).getD c.1.toNat 0),true,v,([m.1]:List Yq1),a))
 else(u (k.2.1,k.2.2,(([0,0,510,2,64,384]:List Int).getD c.1.toNat 0),false,([]:List Yq0),([m.1]:List Yq1),a)))
 (U7 fun o q d e f l b =>
 chk (decide ((b.length+1)*65<=140737488355328)) <|
 w (i64.wrap (s - (1:Int)),o,q,b++([(l,d,e,f)]:List Yq2))))
 else(y (h,j,a)))
 N (i64.wrap (1+t.1),t.2.1,t.2.2,([]:List Yq2)) (U3 fun p r g =>
 some (g,(p,r)))
abbrev AeG:Type:=Yq4×List Int×Int
def QI (N:Nat) (bh:List Int×Int):Option AeG :=
 Ac (Zg N) fun ae =>
 Ac (Aw N bh 6) fun bc =>
 Ap (X:=Int×List Int×Int×Bool×Bool×Int×Int×Int×Int×Int×Bool×List Yq1×List Yq1×Bs×Bs×List Yq2×List Bs×List Bs×(List (Bs×Bs))×List Yq1×List Yq2×List (Bs×Bool×Bs)) (Y:=(List Int×Int×Bool×Bool×Int×Int×Int×Int×Int×Bool×List Yq1×List Yq1×Bs×Bs×List Yq2×(List (Bs×Bool×Bs))×List Yq2×List Yq1×(List (Bs×Bs))×List Bs×List Bs)) (U22 fun x aT aU af ag ah ai aj ak al y z aa ab ac ad am an ao ap aq ar au bi =>
 bif decide (x>0)then(Ac (Aw N (aT,aU) 14) fun w =>
 GL (α :=Bool×List Int×Int×Bool×Bool×Int×Int×Int×Int×Int×Bool×List Yq1×List Yq1×Bs×Bs×List Yq2×(List (Bs×Bool×Bs))×List Yq2×List Yq1×(List (Bs×Bs))×List Bs×List Bs) (fun bg =>
 bif (w.1==0)then(bg ((w.1==0),w.2.1,w.2.2,af,ag,ah,ai,aj,ak,al,y,z,aa,ab,ac,ad,ar,aq,ap,ao,an,am))
 else(bg ((w.1==1),w.2.1,w.2.2,af,ag,ah,ai,aj,ak,al,y,z,aa,ab,ac,ad,ar,aq,ap,ao,an,am)))
 (U22 fun bd u v r s t g h j k a b c d e f l m n o p q =>
 bif bd then(Ac (Aw N (u,v) 5) fun aW =>
 au (i64.wrap (x - (1:Int)),aW.2.1,aW.2.2,true,true,i64.wrap (aW.1 - (1:Int)),g,h,j,k,a,b,c,d,e,f,q,p,o,n,m,l))
 else(bif (w.1==2)then(au (i64.wrap (x - (1:Int)),u,v,true,false,(-1),g,h,j,k,a,b,c,d,e,f,q,p,o,n,m,l))
 else(bif (w.1==3)then(Ac (Aw N (u,v) 511) fun aX =>
 au (i64.wrap (x - (1:Int)),aX.2.1,aX.2.2,r,s,t,i64.wrap (1+aX.1),h,j,k,a,b,c,d,e,f,q,p,o,n,m,l))
 else(bif (w.1==4)then(Ac (QK N (u,v) true) fun aY =>
 au (i64.wrap (x - (1:Int)),aY.2.1,aY.2.2,r,s,t,g,h,j,k,a,b,c,d,e,f,aY.1,p,o,n,m,l))
 else(bif (w.1==5)then(Ac (QK N (u,v) false) fun aZ =>
 au (i64.wrap (x - (1:Int)),aZ.2.1,aZ.2.2,r,s,t,g,h,j,k,a,b,c,d,e,f,q,aZ.1,o,n,m,l))
 else(bif (w.1==6)then(Ac (Nl N (u,v)) fun a0 =>
 au (i64.wrap (x - (1:Int)),a0.2.1,a0.2.2,r,s,t,g,h,j,k,a,b,c,d,e,f,q,p,a0.1,n,m,l))
 else(bif (w.1==7)then(Ac (Aw N (u,v) 5) fun a9 =>
 Ac (Aw N a9.2 5) fun a1 =>
 au (i64.wrap (x - (1:Int)),a1.2.1,a1.2.2,r,s,t,g,i64.wrap (a9.1 - (1:Int)),i64.wrap (a1.1 - (1:Int)),k,a,b,c,d,e,f,q,p,o,n,m,l))
 else(bif (w.1==8)then(Ac (Aw N (u,v) 65) fun a2 =>
 au (i64.wrap (x - (1:Int)),a2.2.1,a2.2.2,r,s,t,g,h,j,a2.1,a,b,c,d,e,f,q,p,o,n,m,l))
 else(bif (w.1==9)then(Ac (Jg N (u,v)) fun ba =>
 Ac (Jg N ba.2) fun bb =>
 Ac (Aw N bb.2 2) fun aQ =>
 chk (decide (0<=i64.wrap (1+aQ.1))) <|
 chk (decide (i64.wrap (1+aQ.1)<=2)) <|
 let a4:List Yq1:=AA ([ba.1,bb.1]:List Yq1) 0 ((i64.wrap (1+aQ.1)).toNat)
 au (i64.wrap (x - (1:Int)),aQ.2.1,aQ.2.2,r,s,t,g,h,j,k,a,b,c,d,e,f,q,p,o,a4,m,l))
 else(bif (w.1==10)then(Ac (Nk N (u,v)) fun aV =>
 au (i64.wrap (x - (1:Int)),aV.2.1,aV.2.2,r,s,t,g,h,j,k,true,aV.1.1,aV.1.2,d,e,f,q,p,o,n,m,l))
 else(bif (w.1==11)then(Ac (Aw N (u,v) 3) fun aR =>
 chk (decide (0<=aR.1)) <|
 chk (decide (aR.1<3)) <|
 chk (decide (aR.1.toNat<3)) <|
 let be:Bs:=(([([]:Bs),([48,49,50,51,52,53,54,55,56,57,97,98,99,100,101,102]:Bs),([120]:Bs)]:List Bs).getD aR.1.toNat [])
 Ac (Aw N aR.2 2) fun av =>
 chk (decide (0<=av.1)) <|
 chk (decide (av.1<2)) <|
 chk (decide (av.1.toNat<2)) <|
 let bf:Bs:=(([([]:Bs),([102,101,100,99,98,97,57,56,55,54,53,52,51,50,49,48]:Bs)]:List Bs).getD av.1.toNat [])
 au (i64.wrap (x - (1:Int)),av.2.1,av.2.2,r,s,t,g,h,j,k,a,b,c,be,bf,f,q,p,o,n,m,l))
 else(bif (w.1==12)then(Ac (MO N (u,v)) fun aS =>
 au (i64.wrap (x - (1:Int)),aS.2.1,aS.2.2,r,s,t,g,h,j,k,a,b,c,d,e,f,q,p,o,n,aS.1,l))
 else(Ac (MO N (u,v)) fun a7 =>
 Ac (Aw N a7.2 2) fun a8 =>
 Ac (Aw N a8.2 3) fun aP =>
 chk (decide (0<=aP.1)) <|
 chk (decide (aP.1<=2)) <|
 let a3:List (Bs×Bool×Bs):=AA ([(([49,46,50,46,51,46,52,46,53]:Bs),(a8.1==1),([5,0]:Bs)),(([49,46,50,46,51,46,52,46,54]:Bs),false,([48,3,2,1,7]:Bs))]:List (Bs×Bool×Bs)) 0 aP.1.toNat
 au (i64.wrap (x - (1:Int)),aP.2.1,aP.2.2,r,s,t,g,h,j,k,a,b,c,d,e,a7.1,q,p,o,n,m,a3)))))))))))))))
 else(bi (aT,aU,af,ag,ah,ai,aj,ak,al,y,z,aa,ab,ac,ad,ar,aq,ap,ao,an,am)))
 N (bc.1,bc.2.1,bc.2.2,ae.1,ae.2.1,ae.2.2.1,ae.2.2.2.1,ae.2.2.2.2.2.2.2.1,ae.2.2.2.2.2.2.2.2.1,ae.2.2.2.2.2.2.2.2.2.1,ae.2.2.2.2.2.2.2.2.2.2.2.1,ae.2.2.2.2.2.2.2.2.2.2.2.2.1,ae.2.2.2.2.2.2.2.2.2.2.2.2.2.1,ae.2.2.2.2.2.2.2.2.2.2.2.2.2.2.1,ae.2.2.2.2.2.2.2.2.2.2.2.2.2.2.2.1,ae.2.2.2.2.2.2.2.2.2.2.2.2.2.2.2.2.2.1,ae.2.2.2.2.1,ae.2.2.2.2.2.1,ae.2.2.2.2.2.2.1,ae.2.2.2.2.2.2.2.2.2.2.1,ae.2.2.2.2.2.2.2.2.2.2.2.2.2.2.2.2.1,ae.2.2.2.2.2.2.2.2.2.2.2.2.2.2.2.2.2.2) (U21 fun a5 a6 aC aD aE aF aG aH aI aw ax ay az aA aB aJ aK aL aM aN aO =>
 some ((aC,aD,aE,aF,aO,aN,aM,aG,aH,aI,aL,aw,ax,ay,az,aA,aK,aB,aJ),(a5,a6)))
abbrev Ahe:Type:=List Int×Int
def pI (N:Nat) (a:List Int):Option Ahe :=
 some (a,0)
abbrev AdV:Type:=List Int×Bool
def SA (N:Nat) (d:Bs):Option AdV :=
 Ap (X:=Int×Int×List Int) (Y:=(List Int)) (U3 fun j a e w ag =>
 bif decide (a<=(d.length:Int))then(chk (((decide (a<(d.length:Int)))||(!(decide (a<(d.length:Int)))))) <|
 chk ((decide (a<(d.length:Int)))||(!(decide (a<(d.length:Int))))) <|
 chk ((decide (0<=a))||(!(decide (a<(d.length:Int))))) <|
 chk ((decide (a<(d.length:Int)))||(!(decide (a<(d.length:Int))))) <|
 chk ((decide (a<(d.length:Int)))||(!(decide (a<(d.length:Int))))) <|
 chk (bif decide (a<(d.length:Int))then decide (a<(d.length:Int))else true) <|
 chk (bif decide (a<(d.length:Int))then true else true) <|
 let z:Bool:=bif decide (a<(d.length:Int))then(((d.getD a.toNat 0).toNat:Int) != (46:Int))else false
 bif z then(chk (decide (0<=a)) <|
 chk (decide (a<(d.length:Int))) <|
 chk ((!(decide (((d.getD a.toNat 0).toNat:Int)<48)))||(!(!(decide (((d.getD a.toNat 0).toNat:Int)<48))))) <|
 chk ((!(decide (((d.getD a.toNat 0).toNat:Int)<48)))||(!(!(decide (((d.getD a.toNat 0).toNat:Int)<48))))) <|
 chk ((decide (0<=a))||(!(!(decide (((d.getD a.toNat 0).toNat:Int)<48))))) <|
 chk ((decide (a<(d.length:Int)))||(!(!(decide (((d.getD a.toNat 0).toNat:Int)<48))))) <|
 chk ((!(decide (((d.getD a.toNat 0).toNat:Int)<48)))||(!(!(decide (((d.getD a.toNat 0).toNat:Int)<48))))) <|
 chk (bif decide (((d.getD a.toNat 0).toNat:Int)<48)then true else !(decide (((d.getD a.toNat 0).toNat:Int)<48))) <|
 chk (bif decide (((d.getD a.toNat 0).toNat:Int)<48)then true else true) <|
 let aa:Bool:=bif decide (((d.getD a.toNat 0).toNat:Int)<48)then true else decide (((d.getD a.toNat 0).toNat:Int)>57)
 bif aa then(some (([]:List Int),false))
 else(w (j,i64.wrap (a+1),e)))
 else(chk (decide (0<=j)) <|
 chk (decide (j<=a)) <|
 chk (decide (a<=(d.length:Int))) <|
 Au (((AA d j.toNat a.toNat).length:Int)==0) fun n =>
 chk (!n||(!!n)) <|
 chk (!n||(!!n)) <|
 chk (bif n then true else !n) <|
 chk (bif n then true else true) <|
 Au (bif n then true else decide (((AA d j.toNat a.toNat).length:Int)>10)) fun ad =>
 Au (ad) fun f =>
 chk (!f||(!!f)) <|
 chk (!f||(!!f)) <|
 chk (!f||(!!f)) <|
 Au (decide (((AA d j.toNat a.toNat).length:Int)>1)) fun m =>
 chk ((!f&&m)||(!(!f&&m))) <|
 chk ((decide (0<((AA d j.toNat a.toNat).length:Int)))||(!(!f&&m))) <|
 chk ((!f&&m)||(!(!f&&m))) <|
 chk (!f||(!!f)) <|
 chk ((bif m then(!f&&m)else true)||(!!f)) <|
 chk ((bif m then true else true)||(!!f)) <|
 Au (bif m then((((AA d j.toNat a.toNat).getD 0 0).toNat:Int)==48)else false) fun ae =>
 chk (bif f then true else !f) <|
 chk (bif f then true else true) <|
 Au (bif f then true else ae) fun af =>
 Au (af) fun o =>
 chk (!o||(!!o)) <|
 chk (!o||(!!o)) <|
 chk (bif o then true else !o) <|
 chk (bif o then true else true) <|
 Au (bif o then true else((e.length:Int)==12)) fun s =>
 bif s then(some (([]:List Int),false))
 else(Ap (X:=Int×Int×List Int) (Y:=(Int×List Int)) (U3 fun q p k x y =>
 bif decide (p<((AA d j.toNat a.toNat).length:Int))then(chk (decide (0<=p)) <|
 chk (decide (p<((AA d j.toNat a.toNat).length:Int))) <|
 let ab:Int:=IntKind.u8.wrap ((((AA d j.toNat a.toNat).getD p.toNat 0).toNat:Int) - (48:Int))
 let ac:Int:=i64.wrap ((i64.wrap (10*q))+(i64.wrap ab))
 x (ac,i64.wrap (p+1),k))
 else(y (q,k)))
 N (0,0,e) (U2 fun r l =>
 bif decide (r>2147483647)then(some (([]:List Int),false))
 else(chk (decide ((l.length+1)*9<=140737488355328)) <|
 w (i64.wrap (a+1),i64.wrap (a+1),l++([r]:List Int)))))))
 else(ag e))
 N (0,0,([]:List Int)) (fun b =>
 Au (decide ((b.length:Int)<2)) fun g =>
 chk (!g||(!!g)) <|
 chk ((decide (0<(b.length:Int)))||(!!g)) <|
 chk (!g||(!!g)) <|
 chk ((decide (0<b.length))||(!!g)) <|
 chk (!g||(!!g)) <|
 chk (bif g then true else !g) <|
 chk (bif g then true else true) <|
 Au (bif g then true else decide ((b.getD 0 0)>2)) fun t =>
 Au (t) fun c =>
 chk (!c||(!!c)) <|
 chk ((decide (0<(b.length:Int)))||(!!c)) <|
 chk (!c||(!!c)) <|
 chk ((decide (0<b.length))||(!!c)) <|
 chk (!c||(!!c)) <|
 chk (!c||(!!c)) <|
 Au (decide ((b.getD 0 0)<2)) fun h =>
 chk ((!c&&h)||(!(!c&&h))) <|
 chk ((decide (1<(b.length:Int)))||(!(!c&&h))) <|
 chk ((!c&&h)||(!(!c&&h))) <|
 chk ((decide (1<b.length))||(!(!c&&h))) <|
 chk ((!c&&h)||(!(!c&&h))) <|
 chk (!c||(!!c)) <|
 chk ((bif h then(!c&&h)else true)||(!!c)) <|
 chk ((bif h then true else true)||(!!c)) <|
 Au (bif h then decide ((b.getD 1 0)>39)else false) fun u =>
 chk (bif c then true else !c) <|
 chk (bif c then true else true) <|
 Au (bif c then true else u) fun v =>
 bif v then(some (([]:List Int),false))
 else(some (b,true)))
abbrev qH:Type:=Bool
def XZ (N:Nat) (a:Bs):Option qH :=
 Ac (SA N a) fun b =>
 some b.2
abbrev AbN:Type:=List Bs
def AeY (N:Nat):Option AbN :=
 some ([([50,46,53,46,50,57,46,49,57]:Bs),([50,46,53,46,50,57,46,49,53]:Bs),([50,46,53,46,50,57,46,51,55]:Bs),([50,46,53,46,50,57,46,51,50]:Bs),([50,46,53,46,50,57,46,51,51]:Bs),([50,46,53,46,50,57,46,51,54]:Bs),([50,46,53,46,50,57,46,53,52]:Bs),([50,46,53,46,50,57,46,49,55]:Bs),([50,46,53,46,50,57,46,51,48]:Bs),([50,46,53,46,50,57,46,49,52]:Bs),([50,46,53,46,50,57,46,51,53]:Bs),([50,46,53,46,50,57,46,51,49]:Bs),([50,46,53,46,50,57,46,52,54]:Bs)]:List Bs)
abbrev qG:Type:=Bs×Int
def XY (N:Nat) (g:Int):Option qG :=
 chk ((!(decide (g<0)))||(!(!(decide (g<0))))) <|
 chk (bif decide (g<0)then true else !(decide (g<0))) <|
 chk (bif decide (g<0)then true else true) <|
 bif bif decide (g<0)then true else decide (g>65535)then(some (([]:Bs),1))
 else(Ap (X:=Int×Int) (Y:=Int) (U2 fun j f k o =>
 bif decide (f<16)then(chk (decide (0<=f)) <|
 bif (((g.fdiv (2 ^ (min f.toNat 64))).tmod 2)==1)then(k (i64.wrap (f+1),i64.wrap (f+1)))
 else(k (j,i64.wrap (f+1))))
 else(o j))
 N (0,0) (fun h =>
 let c:Int:=i64.wrap (1+(i64.wrap ((i64.wrap (h+7)).tdiv 8)))
 chk (decide (c<=c)) <|
 chk (decide (0<=c)) <|
 chk (decide (c*2<=140737488355328)) <|
 let m:Int:=i64.wrap (8*(i64.wrap ((i64.wrap (h+7)).tdiv 8)))
 chk (decide (0<((List.replicate c.toNat 0:List Int).length:Int))) <|
 chk (decide (0<(List.replicate c.toNat 0:List Int).length)) <|
 let d:List Int:=(List.replicate c.toNat 0:List Int).set 0 (IntKind.u8.wrap (i64.wrap (m - h)))
 Ap (X:=Int×List Int) (Y:=(List Int)) (U2 fun b a l p =>
 bif decide (b<h)then(chk (decide (0<=b)) <|
 bif (((g.fdiv (2 ^ (min b.toNat 64))).tmod 2)==1)then(chk (decide (0<=i64.wrap (1+(i64.wrap (b.tdiv 8))))) <|
 chk (decide (i64.wrap (1+(i64.wrap (b.tdiv 8)))<(a.length:Int))) <|
 chk (decide ((i64.wrap (1+(i64.wrap (b.tdiv 8)))).toNat<a.length)) <|
 let n:Int:=(a.getD ((i64.wrap (1+(i64.wrap (b.tdiv 8)))).toNat) 0)
 chk (decide (0<=b.tmod 8)) <|
 chk (decide (0<=i64.wrap (1+(i64.wrap (b.tdiv 8))))) <|
 chk (decide (i64.wrap (1+(i64.wrap (b.tdiv 8)))<(a.length:Int))) <|
 chk (decide ((i64.wrap (1+(i64.wrap (b.tdiv 8)))).toNat<a.length)) <|
 let d:List Int:=a.set ((i64.wrap (1+(i64.wrap (b.tdiv 8)))).toNat) (Bi .or .u8 n ((128:Int).fdiv (2 ^ (min (b.tmod 8).toNat 8))))
 l (i64.wrap (b+1),d))
 else(l (i64.wrap (b+1),a)))
 else(p a))
 N (0,d) (fun e =>
 chk (List.all e isByte) <|
 some (List.map byteOf e,0))))
abbrev gI:Type:=Bs
def Uw (N:Nat) (r:Int):Option gI :=
 Ap (X:=Int×List Int) (Y:=(List Int)) (U2 fun h d p s =>
 bif decide (h>=0)then(chk (decide (0<=i64.wrap (8*h))) <|
 let n:Int:=(IntKind.u64.wrap r).fdiv (2 ^ (min (i64.wrap (8*h)).toNat 64))
 chk (decide ((d.length+1)*2<=140737488355328)) <|
 p (i64.wrap (h - (1:Int)),d++([IntKind.u8.wrap n]:List Int)))
 else(s d))
 N (7,([]:List Int)) (fun g =>
 Ap (X:=List Int) (Y:=(List Int)) (fun c q t =>
 Au (decide ((c.length:Int)>1)) fun a =>
 chk (a||!a) <|
 chk ((decide (0<(c.length:Int)))||!a) <|
 chk (a||!a) <|
 chk (a||!a) <|
 chk (a||!a) <|
 Au ((c.getD 0 0)==0) fun e =>
 chk ((a&&e)||(!(a&&e))) <|
 chk ((decide (1<(c.length:Int)))||(!(a&&e))) <|
 chk ((a&&e)||(!(a&&e))) <|
 chk ((a&&e)||(!(a&&e))) <|
 chk (a||!a) <|
 chk ((bif e then(a&&e)else true)||!a) <|
 chk ((bif e then true else true)||!a) <|
 Au (bif e then decide ((c.getD 1 0)<128)else false) fun o =>
 chk (a||!a) <|
 Au (o) fun b =>
 chk ((a&&!b)||(!(a&&!b))) <|
 chk ((decide (0<(c.length:Int)))||(!(a&&!b))) <|
 chk ((a&&!b)||(!(a&&!b))) <|
 chk ((a&&!b)||(!(a&&!b))) <|
 chk ((a&&!b)||(!(a&&!b))) <|
 Au ((c.getD 0 0)==255) fun f =>
 chk (((a&&!b)&&f)||(!((a&&!b)&&f))) <|
 chk ((decide (1<(c.length:Int)))||(!((a&&!b)&&f))) <|
 chk (((a&&!b)&&f)||(!((a&&!b)&&f))) <|
 chk (((a&&!b)&&f)||(!((a&&!b)&&f))) <|
 chk ((a&&!b)||(!(a&&!b))) <|
 chk ((bif f then((a&&!b)&&f)else true)||(!(a&&!b))) <|
 chk ((bif f then true else true)||(!(a&&!b))) <|
 Au (bif f then decide ((c.getD 1 0)>=128)else false) fun k =>
 chk (a||!a) <|
 chk ((bif b then true else(a&&!b))||!a) <|
 chk ((bif b then true else true)||!a) <|
 Au (bif b then true else k) fun l =>
 chk (bif a then a else true) <|
 chk (bif a then true else true) <|
 Au (bif a then l else false) fun m =>
 bif m then(chk (decide (1<=(c.length:Int))) <|
 q (AA c 1 c.length))
 else(t c))
 N g (fun j =>
 chk (List.all j isByte) <|
 some (List.map byteOf j)))
abbrev WI:Type:=Bool
def Fq (N:Nat) (b:Yq3) (c:Yq3):Option WI :=
 bif ((b.length:Int) != (c.length:Int))then(some false)
 else(Ap (X:=Int) (Y:=Unit) (fun a e f =>
 bif decide (a<(b.length:Int))then(chk (decide (0<=a)) <|
 chk (decide (a<(b.length:Int))) <|
 chk (decide (0<=a)) <|
 chk (decide (a<(c.length:Int))) <|
 let d:Bool:= !((((b.getD a.toNat ([],false,[])).1)==((c.getD a.toNat ([],false,[])).1))&&((((b.getD a.toNat ([],false,[])).2.1)==((c.getD a.toNat ([],false,[])).2.1))&&((((b.getD a.toNat ([],false,[])).2.2)==((c.getD a.toNat ([],false,[])).2.2))&&true)))
 bif d then(some false)
 else(e (i64.wrap (a+1))))
 else(f ()))
 N 0 (fun _ =>
 some true))
abbrev Ai1:Type:=(Int×Bs×Bs)×Int
def IY (N:Nat) (b:Bs) (c:Int):Option Ai1 :=
 Ac (NZ N b) fun a =>
 bif (a.2 != (0:Int))then(some ((0,([]:Bs),([]:Bs)),a.2))
 else(bif (a.1.1 != c)then(some ((0,([]:Bs),([]:Bs)),5))
 else(some (a.1,0)))
abbrev AhQ:Type:=Yq7×Int
def DR (N:Nat) (f:Bs):Option AhQ :=
 Ap (X:=Bs×List (Int×Bs×Bs)) (Y:=(List (Int×Bs×Bs))) (U2 fun d a e g =>
 bif !(d==([]:Bs))then(Ac (NH N d) fun c =>
 bif (c.2.2 != (0:Int))then(some (([]:List (Int×Bs×Bs)),c.2.2))
 else(chk (decide ((a.length+1)*41<=140737488355328)) <|
 e (c.2.1,a++([c.1]:List (Int×Bs×Bs)))))
 else(g a))
 N (f,([]:List (Int×Bs×Bs))) (fun b =>
 some (b,0))
abbrev yI:Type:=(Yq7×Int) ⊕ (Unit×Int)
def Hl (N:Nat) (b:Bs):Option yI :=
 Ac (DR N b) fun a =>
 bif (a.2 != (0:Int))then(some (.inr ((),a.2)))
 else(some (.inl (a.1,0)))
abbrev Agu:Type:=(Yq7×Int) ⊕ (Unit×Int)
def Ju (N:Nat) (c:Bs) (d:Int):Option Agu :=
 Ac (IY N c d) fun b =>
 bif (b.2 != (0:Int))then(some (.inr ((),b.2)))
 else(Hw (Hl N b.1.2.1) (fun a =>
 some (.inl (a.1,a.2)))
 (fun a =>
 some (.inr ((),a.2))))
abbrev jX:Type:=Int×Yq7
def Dh (N:Nat) (a:Yq7):Option jX :=
 some ((a.length:Int),a)
abbrev o5:Type:=(Int×Bs×Bs)×Int×Yq7
def LC (N:Nat) (a:Yq7):Option o5 :=
 bif ((a.length:Int)==0)then(some ((0,([]:Bs),([]:Bs)),3,a))
 else(chk (decide (0<(a.length:Int))) <|
 chk (decide (1<=(a.length:Int))) <|
 some ((a.getD 0 (0,[],[])),0,AA a 1 a.length))
abbrev jY:Type:=(Int×Bs×Bs)×Int×Yq7
def Fe (N:Nat) (a:Yq7) (d:Int):Option jY :=
 chk ((decide ((a.length:Int)>0))||(!(decide ((a.length:Int)>0)))) <|
 chk ((decide ((a.length:Int)>0))||(!(decide ((a.length:Int)>0)))) <|
 chk ((decide ((a.length:Int)>0))||(!(decide ((a.length:Int)>0)))) <|
 chk ((decide ((a.length:Int)>0))||(!(decide ((a.length:Int)>0)))) <|
 chk ((decide (0<(a.length:Int)))||(!(decide ((a.length:Int)>0)))) <|
 chk ((decide ((a.length:Int)>0))||(!(decide ((a.length:Int)>0)))) <|
 chk ((decide ((a.length:Int)>0))||(!(decide ((a.length:Int)>0)))) <|
 chk ((decide ((a.length:Int)>0))||(!(decide ((a.length:Int)>0)))) <|
 chk ((decide ((a.length:Int)>0))||(!(decide ((a.length:Int)>0)))) <|
 chk (bif decide ((a.length:Int)>0)then decide ((a.length:Int)>0)else true) <|
 chk (bif decide ((a.length:Int)>0)then true else true) <|
 let c:Bool:=bif decide ((a.length:Int)>0)then(((a.getD 0 (0,[],[])).1) != d)else false
 bif c then(some ((0,([]:Bs),([]:Bs)),5,a))
 else(Ac (LC N a) fun b =>
 some (b.1,b.2.1,b.2.2))
abbrev aG:Type:=(Yq7×Int×Yq7) ⊕ (Unit×Int×Yq7)
def DJ (N:Nat) (c:Yq7):Option aG :=
 Ac (Fe N c 48) fun b =>
 bif (b.2.1 != (0:Int))then(some (.inr ((),b.2.1,b.2.2)))
 else(Hw (Hl N b.1.2.1) (fun a =>
 some (.inl (a.1,a.2,b.2.2)))
 (fun a =>
 some (.inr ((),a.2,b.2.2))))
abbrev o6:Type:=(Int×Bs×Bs)×Bool×Yq7
def Ce (N:Nat) (a:Yq7) (c:Int):Option o6 :=
 chk ((!((a.length:Int)==0))||(!(!((a.length:Int)==0)))) <|
 chk ((!((a.length:Int)==0))||(!(!((a.length:Int)==0)))) <|
 chk ((!((a.length:Int)==0))||(!(!((a.length:Int)==0)))) <|
 chk ((!((a.length:Int)==0))||(!(!((a.length:Int)==0)))) <|
 chk ((decide (0<(a.length:Int)))||(!(!((a.length:Int)==0)))) <|
 chk ((!((a.length:Int)==0))||(!(!((a.length:Int)==0)))) <|
 chk ((!((a.length:Int)==0))||(!(!((a.length:Int)==0)))) <|
 chk ((!((a.length:Int)==0))||(!(!((a.length:Int)==0)))) <|
 chk ((!((a.length:Int)==0))||(!(!((a.length:Int)==0)))) <|
 chk (bif ((a.length:Int)==0)then true else !((a.length:Int)==0)) <|
 chk (bif ((a.length:Int)==0)then true else true) <|
 let b:Bool:=bif ((a.length:Int)==0)then true else(((a.getD 0 (0,[],[])).1) != c)
 bif b then(some ((0,([]:Bs),([]:Bs)),false,a))
 else(chk (decide (0<(a.length:Int))) <|
 chk (decide (1<=(a.length:Int))) <|
 some ((a.getD 0 (0,[],[])),true,AA a 1 a.length))
abbrev xB:Type:=Bool
def Nr (N:Nat) (b:Yq7):Option xB :=
 Ap (X:=Int) (Y:=Unit) (fun a d e =>
 bif decide (a<(b.length:Int))then(chk (decide (0<=a)) <|
 chk (decide (a<(b.length:Int))) <|
 chk (decide (0<=i64.wrap (a - (1:Int)))) <|
 chk (decide (i64.wrap (a - (1:Int))<(b.length:Int))) <|
 let c:Bs:=(b.getD ((i64.wrap (a - (1:Int))).toNat) (0,[],[])).2.2
 bif bytesLess ((b.getD a.toNat (0,[],[])).2.2) c then(some false)
 else(d (i64.wrap (a+1))))
 else(e ()))
 N 1 (fun _ =>
 some true)
abbrev AbF:Type:=List Int
def Qr (N:Nat) (f:Bs):Option AbF :=
 Ap (X:=Int×List Int) (Y:=(List Int)) (U2 fun e b p r =>
 bif decide (e<(f.length:Int))then(chk (decide (0<=e)) <|
 chk (decide (e<(f.length:Int))) <|
 bif (((f.getD e.toNat 0).toNat:Int)==128)then(some ([]:List Int))
 else(Ap (X:=Int×Int×List Int) (Y:=(Int×List Int) ⊕ Unit) (U3 fun c h a q o =>
 bif decide (c<(f.length:Int))then(chk (decide (0<=c)) <|
 chk (decide (c<(f.length:Int))) <|
 let j:Int:=Bi .and .i64 (i64.wrap ((f.getD c.toNat 0).toNat:Int)) 127
 let m:Bool:=decide ((Bi .or .i64 (i64.wrap (h*(128))) j)>4294967294)
 bif m then(some ([]:List Int))
 else(let n:Bool:=decide ((i64.wrap ((f.getD c.toNat 0).toNat:Int))<128)
 bif n then(chk (decide ((a.length+1)*9<=140737488355328)) <|
 let k:List Int:=a++([Bi .or .i64 (i64.wrap (h*(128))) j]:List Int)
 o (.inl (i64.wrap (c+1),k)))
 else(q (i64.wrap (c+1),Bi .or .i64 (i64.wrap (h*(128))) j,a))))
 else(o (.inr ())))
 N (e,0,b) (Sum.elim (U2 fun l g =>
 p (l,g))
 (fun _ =>
 some ([]:List Int)))))
 else(r b))
 N (0,([]:List Int)) (fun d =>
 some d)
abbrev AdB:Type:=Bs×Int
def OH (N:Nat) (n:Bs):Option AdB :=
 Ac (Qr N n) fun a =>
 chk ((!((a.length:Int)==0))||(!(!((a.length:Int)==0)))) <|
 chk ((!((a.length:Int)==0))||(!(!((a.length:Int)==0)))) <|
 chk (bif ((a.length:Int)==0)then true else !((a.length:Int)==0)) <|
 chk (bif ((a.length:Int)==0)then true else true) <|
 let k:Bool:=bif ((a.length:Int)==0)then true else decide ((a.length:Int)>11)
 bif k then(some (([]:Bs),11))
 else(chk (decide (0<(a.length:Int))) <|
 let f:Int:=(bif decide (2<i64.wrap ((a.getD 0 0).tdiv 40))then(2:Int)else i64.wrap ((a.getD 0 0).tdiv 40))
 chk (decide (0<(a.length:Int))) <|
 let g:Int:=i64.wrap ((a.getD 0 0) - (i64.wrap (40*f)))
 chk (decide (1<=(a.length:Int))) <|
 chk (decide ((2+(AA a 1 a.length).length)*9<=140737488355328)) <|
 Ap (X:=Int×List Int×List Bs) (Y:=(List Bs)) (U3 fun d b c m o =>
 let l:Bool:=decide (d<((([f,g]:List Int)++(AA a 1 a.length)).length:Int))
 bif l then(chk (decide (0<=d)) <|
 chk (decide (d<(b.length:Int))) <|
 chk (decide (d.toNat<b.length)) <|
 bif decide ((b.getD d.toNat 0)>2147483647)then(some (([]:Bs),11))
 else(Ac (strconv_Itoa N (b.getD d.toNat 0)) fun h =>
 chk (decide ((c.length+1)*17<=140737488355328)) <|
 m (i64.wrap (d+1),b,c++([h]:List Bs))))
 else(o c))
 N (0,([f,g]:List Int)++(AA a 1 a.length),([]:List Bs)) (fun e =>
 Ac (strings_Join N e ([46]:Bs)) fun j =>
 some (j,0)))
abbrev UU:Type:=(Bs×Int×Bs)×Int
def Gv (N:Nat) (d:Int×Bs×Bs):Option UU :=
 bif (d.1 != (48:Int))then(some ((([]:Bs),0,([]:Bs)),5))
 else(Ac (DR N d.2.1) fun a =>
 bif (a.2 != (0:Int))then(some ((([]:Bs),0,([]:Bs)),a.2))
 else(bif decide ((a.1.length:Int)<1)then(some ((([]:Bs),0,([]:Bs)),3))
 else(chk (decide (0<(a.1.length:Int))) <|
 bif (((a.1.getD 0 (0,[],[])).1) != (6:Int))then(some ((([]:Bs),0,([]:Bs)),5))
 else(chk (decide (0<(a.1.length:Int))) <|
 Ac (OH N ((a.1.getD 0 (0,[],[])).2.1)) fun b =>
 bif (b.2 != (0:Int))then(some ((([]:Bs),0,([]:Bs)),b.2))
 else(bif decide ((a.1.length:Int)<2)then(some ((([]:Bs),0,([]:Bs)),3))
 else(GL (α :=Unit) (fun c =>
 chk (decide (1<(a.1.length:Int))) <|
 bif (((a.1.getD 1 (0,[],[])).1)==12)then(bif (((a.1.getD 1 (0,[],[])).1)==12)then(c ())
 else(some ((([]:Bs),0,([]:Bs)),5)))
 else(bif (((a.1.getD 1 (0,[],[])).1)==19)then(bif (((a.1.getD 1 (0,[],[])).1)==19)then(c ())
 else(some ((([]:Bs),0,([]:Bs)),5)))
 else(bif (((a.1.getD 1 (0,[],[])).1)==22)then(c ())
 else(some ((([]:Bs),0,([]:Bs)),5)))))
 (fun _ =>
 bif decide ((a.1.length:Int)>2)then(some ((([]:Bs),0,([]:Bs)),4))
 else(chk (decide (1<(a.1.length:Int))) <|
 chk (decide (1<(a.1.length:Int))) <|
 some ((b.1,(a.1.getD 1 (0,[],[])).1,(a.1.getD 1 (0,[],[])).2.1),0)))))))))
abbrev Wp:Type:=Yq0×Int
def GK (N:Nat) (f:Int×Bs×Bs):Option Wp :=
 bif (f.1 != (49:Int))then(some (([]:List (Bs×Int×Bs)),5))
 else(Ac (DR N f.2.1) fun c =>
 bif (c.2 != (0:Int))then(some (([]:List (Bs×Int×Bs)),c.2))
 else(Ac (Nr N c.1) fun g =>
 bif !g then(some (([]:List (Bs×Int×Bs)),9))
 else(Ap (X:=Int×List (Bs×Int×Bs)) (Y:=(List (Bs×Int×Bs))) (U2 fun b a h j =>
 bif decide (b<(c.1.length:Int))then(chk (decide (0<=b)) <|
 chk (decide (b<(c.1.length:Int))) <|
 Ac (Gv N (c.1.getD b.toNat (0,[],[]))) fun e =>
 bif (e.2 != (0:Int))then(some (([]:List (Bs×Int×Bs)),e.2))
 else(chk (decide ((a.length+1)*41<=140737488355328)) <|
 h (i64.wrap (b+1),a++([e.1]:List (Bs×Int×Bs)))))
 else(j a))
 N (0,([]:List (Bs×Int×Bs))) (fun d =>
 some (d,0)))))
abbrev yN:Type:=List Yq0×Int
def Ov (N:Nat) (j:Bs):Option yN :=
 Ac (NZ N j) fun e =>
 bif (e.2 != (0:Int))then(some (([]:List Yq0),e.2))
 else(bif (e.1.1 != (48:Int))then(some (([]:List Yq0),5))
 else(Ac (DR N e.1.2.1) fun d =>
 bif (d.2 != (0:Int))then(some (([]:List Yq0),d.2))
 else(Ap (X:=Int×List Yq0) (Y:=(List Yq0)) (U2 fun c a h k =>
 bif decide (c<(d.1.length:Int))then(chk (decide (0<=c)) <|
 chk (decide (c<(d.1.length:Int))) <|
 Ac (GK N (d.1.getD c.toNat (0,[],[]))) fun f =>
 bif (f.2 != (0:Int))then(some (([]:List Yq0),f.2))
 else(chk (decide ((a.length+1)*25<=140737488355328)) <|
 h (i64.wrap (c+1),a++([f.1]:List Yq0))))
 else(k a))
 N (0,([]:List Yq0)) (fun b =>
 Ac (Gh N b) fun g =>
 bif (g != (0:Int))then(some (([]:List Yq0),g))
 else(some (b,0))))))
abbrev zC:Type:=Yq1×Int
def Je (N:Nat) (a:Int×Bs×Bs) (n:Bool):Option zC :=
 GL (α :=Int×Bs×List Yq0) (fun m =>
 GL (α :=Bool×Int×Bs×Bs) (fun k =>
 bif (a.1==129)then(k ((a.1==129),a.1,a.2.1,a.2.2))
 else(bif (a.1==130)then(k ((a.1==130),a.1,a.2.1,a.2.2))
 else(k ((a.1==135),a.1,a.2.1,a.2.2))))
 (U4 fun l f b h =>
 bif l then(m (i64.wrap (f - (128:Int)),b,([]:List Yq0)))
 else(bif (a.1==164)then(Ac (Ov N b) fun g =>
 bif (g.2 != (0:Int))then(some ((0,([]:Bs),([]:List Yq0)),g.2))
 else(m (4,([]:Bs),g.1)))
 else(some ((0,([]:Bs),([]:List Yq0)),5)))))
 (U3 fun c d e =>
 Ac (GR N (c,d,e) n) fun j =>
 bif (j != (0:Int))then(some ((0,([]:Bs),([]:List Yq0)),j))
 else(some ((c,d,e),0)))
abbrev dW:Type:=List Yq1×Int
def DF (N:Nat) (h:Bs):Option dW :=
 Ac (DR N h) fun c =>
 bif (c.2 != (0:Int))then(some (([]:List Yq1),c.2))
 else(Ac (MM N (c.1.length:Int)) fun f =>
 bif (f != (0:Int))then(some (([]:List Yq1),f))
 else(Ap (X:=Int×List Yq1) (Y:=(List Yq1)) (U2 fun b a g j =>
 bif decide (b<(c.1.length:Int))then(chk (decide (0<=b)) <|
 chk (decide (b<(c.1.length:Int))) <|
 Ac (Je N (c.1.getD b.toNat (0,[],[])) false) fun e =>
 bif (e.2 != (0:Int))then(some (([]:List Yq1),e.2))
 else(chk (decide ((a.length+1)*49<=140737488355328)) <|
 g (i64.wrap (b+1),a++([e.1]:List Yq1))))
 else(j a))
 N (0,([]:List Yq1)) (fun d =>
 some (d,0))))
abbrev AdM:Type:=Bool
def OU (N:Nat) (a:Bs) (b:Int):Option AdM :=
 bif (b==0)then(some true)
 else(chk (((!(a==([]:Bs)))||(!(!(a==([]:Bs)))))) <|
 chk ((!(a==([]:Bs)))||(!(!(a==([]:Bs))))) <|
 chk ((!(a==([]:Bs)))||(!(!(a==([]:Bs))))) <|
 chk ((!(a==([]:Bs)))||(!(!(a==([]:Bs))))) <|
 chk ((decide (0<=i64.wrap ((a.length:Int) - (1:Int))))||(!(!(a==([]:Bs))))) <|
 chk ((decide (i64.wrap ((a.length:Int) - (1:Int))<(a.length:Int)))||(!(!(a==([]:Bs))))) <|
 let c:Int:=((a.getD ((i64.wrap ((a.length:Int) - (1:Int))).toNat) 0).toNat:Int)
 chk ((!(a==([]:Bs)))||(!(!(a==([]:Bs))))) <|
 chk ((!(a==([]:Bs)))||(!(!(a==([]:Bs))))) <|
 chk ((decide (0<=IntKind.u64.wrap b))||(!(!(a==([]:Bs))))) <|
 let d:Int:=IntKind.u8.wrap ((1:Int)*(2 ^ (min (IntKind.u64.wrap b).toNat 8)))
 chk ((!(a==([]:Bs)))||(!(!(a==([]:Bs))))) <|
 chk ((!(a==([]:Bs)))||(!(!(a==([]:Bs))))) <|
 chk ((!(a==([]:Bs)))||(!(!(a==([]:Bs))))) <|
 chk ((!(a==([]:Bs)))||(!(!(a==([]:Bs))))) <|
 let e:Bool:=((Bi .and .u8 c (IntKind.u8.wrap (d - (1:Int))))==0)
 chk (bif !(a==([]:Bs))then !(a==([]:Bs))else true) <|
 chk (bif !(a==([]:Bs))then true else true) <|
 some (bif !(a==([]:Bs))then e else false))
abbrev AeT:Type:=Bs×Int×Int
def V9 (N:Nat) (b:Bs):Option AeT :=
 chk ((!(b==([]:Bs)))||(!(!(b==([]:Bs))))) <|
 chk ((decide (0<(b.length:Int)))||(!(!(b==([]:Bs))))) <|
 chk ((!(b==([]:Bs)))||(!(!(b==([]:Bs))))) <|
 chk (bif (b==([]:Bs))then true else !(b==([]:Bs))) <|
 chk (bif (b==([]:Bs))then true else true) <|
 let a:Bool:=bif (b==([]:Bs))then true else decide (((b.getD 0 0).toNat:Int)>7)
 chk (!a||(!!a)) <|
 chk ((decide (1<=(b.length:Int)))||(!!a)) <|
 chk (!a||(!!a)) <|
 chk ((decide (0<(b.length:Int)))||(!!a)) <|
 chk (!a||(!!a)) <|
 chk (!a||(!!a)) <|
 chk (!a||(!!a)) <|
 chk (((OU N (AA b 1 b.length) (i64.wrap ((b.getD 0 0).toNat:Int))).isSome)||(!!a)) <|
 let c:=(OU N (AA b 1 b.length) (i64.wrap ((b.getD 0 0).toNat:Int))).getD default
 chk (!a||(!!a)) <|
 chk (bif a then true else !a) <|
 chk (bif a then true else true) <|
 bif bif a then true else !c then(some (([]:Bs),0,7))
 else(chk (decide (1<=(b.length:Int))) <|
 chk (decide (0<(b.length:Int))) <|
 some (AA b 1 b.length,i64.wrap ((b.getD 0 0).toNat:Int),0))
abbrev Ah3:Type:=Bool
def Qe (N:Nat) (b:Bs) (a:Int):Option Ah3 :=
 chk (decide (0<=i64.wrap (a.tdiv 8))) <|
 chk (decide (i64.wrap (a.tdiv 8)<(b.length:Int))) <|
 chk (decide (0<=IntKind.u64.wrap ((7:Int) - (IntKind.u64.wrap (a.tmod 8))))) <|
 let c:Int:=((b.getD ((i64.wrap (a.tdiv 8)).toNat) 0).toNat:Int).fdiv (2 ^ (min (IntKind.u64.wrap ((7:Int) - (IntKind.u64.wrap (a.tmod 8)))).toNat 8))
 some ((Bi .and .u8 c 1)==1)
abbrev AdL:Type:=Int×Int
def LQ (N:Nat) (k:Bs):Option AdL :=
 Ac (V9 N k) fun c =>
 bif (c.2.2 != (0:Int))then(some (0,c.2.2))
 else(let a:Int:=i64.wrap ((i64.wrap (8*(c.1.length:Int))) - c.2.1)
 chk ((decide (a>0))||(!(decide (a>0)))) <|
 chk ((decide (a>0))||(!(decide (a>0)))) <|
 chk ((decide (a>0))||(!(decide (a>0)))) <|
 chk (((Qe N c.1 (i64.wrap (a - (1:Int)))).isSome)||(!(decide (a>0)))) <|
 let f:=(Qe N c.1 (i64.wrap (a - (1:Int)))).getD default
 chk ((decide (a>0))||(!(decide (a>0)))) <|
 chk (bif decide (a>0)then decide (a>0)else true) <|
 chk (bif decide (a>0)then true else true) <|
 bif bif decide (a>0)then !f else false then(some (0,7))
 else(bif decide (a>16)then(some (0,1))
 else(Ap (X:=Int×Int) (Y:=Int) (U2 fun d b e l =>
 bif decide (b<a)then(Ac (Qe N c.1 b) fun g =>
 bif g then(chk (decide (0<=IntKind.u64.wrap b)) <|
 let j:Int:=i64.wrap ((1:Int)*(2 ^ (min (IntKind.u64.wrap b).toNat 64)))
 e (Bi .or .i64 d j,i64.wrap (b+1)))
 else(e (d,i64.wrap (b+1))))
 else(l d))
 N (0,0) (fun h =>
 some (h,0)))))
abbrev jU:Type:=Int×Yq7
def BP (N:Nat) (a:Yq7):Option jU :=
 bif decide ((a.length:Int)>0)then(some (4,a))
 else(some (0,a))
abbrev Xc:Type:=Yq2×Int×Yq7
def Hy (N:Nat) (x:Yq7):Option Xc :=
 GL (α :=(List (Int×Bs×Bs))×List Yq1) (fun t =>
 Ac (Ce N x 160) fun e =>
 bif e.2.1 then(Ac (IY N e.1.2.1 160) fun o =>
 bif (o.2 != (0:Int))then(some ((([]:List Yq1),0,false,([]:List Yq0)),o.2,e.2.2))
 else(Ac (DF N o.1.2.1) fun p =>
 bif (p.2 != (0:Int))then(some ((([]:List Yq1),0,false,([]:List Yq0)),p.2,e.2.2))
 else(t (e.2.2,p.1))))
 else(t (e.2.2,([]:List Yq1))))
 (U2 fun q b =>
 GL (α :=(List (Int×Bs×Bs))×List Yq1×Int) (fun u =>
 Ac (Ce N q 129) fun f =>
 bif f.2.1 then(Ac (LQ N f.1.2.1) fun n =>
 bif (n.2 != (0:Int))then(some ((([]:List Yq1),0,false,([]:List Yq0)),n.2,f.2.2))
 else(bif (n.1==0)then(some ((([]:List Yq1),0,false,([]:List Yq0)),7,f.2.2))
 else(u (f.2.2,b,n.1))))
 else(u (f.2.2,b,0)))
 (U3 fun r c d =>
 GL (α :=(List (Int×Bs×Bs))×List Yq1×Int×Bool×List Yq0) (fun v =>
 Ac (Ce N r 162) fun g =>
 bif g.2.1 then(Ac (DF N g.1.2.1) fun a =>
 bif (a.2 != (0:Int))then(some ((([]:List Yq1),0,false,([]:List Yq0)),a.2,g.2.2))
 else(chk (((!((a.1.length:Int) != (1:Int)))||(!(!((a.1.length:Int) != (1:Int)))))) <|
 chk ((decide (0<(a.1.length:Int)))||(!(!((a.1.length:Int) != (1:Int))))) <|
 chk ((!((a.1.length:Int) != (1:Int)))||(!(!((a.1.length:Int) != (1:Int))))) <|
 chk ((!((a.1.length:Int) != (1:Int)))||(!(!((a.1.length:Int) != (1:Int))))) <|
 chk ((!((a.1.length:Int) != (1:Int)))||(!(!((a.1.length:Int) != (1:Int))))) <|
 chk (bif ((a.1.length:Int) != (1:Int))then true else !((a.1.length:Int) != (1:Int))) <|
 chk (bif ((a.1.length:Int) != (1:Int))then true else true) <|
 let w:Bool:=bif ((a.1.length:Int) != (1:Int))then true else(((a.1.getD 0 (0,[],[])).1) != (4:Int))
 bif w then(some ((([]:List Yq1),0,false,([]:List Yq0)),7,g.2.2))
 else(chk (decide (0<(a.1.length:Int))) <|
 v (g.2.2,c,d,true,(a.1.getD 0 (0,[],[])).2.2))))
 else(v (g.2.2,c,d,false,([]:List Yq0))))
 (U5 fun s j k l m =>
 Ac (BP N s) fun h =>
 bif (h.1 != (0:Int))then(some ((([]:List Yq1),0,false,([]:List Yq0)),h.1,h.2))
 else(some ((j,k,l,m),0,h.2)))))
abbrev VL:Type:=List Yq2×Int
def EX (N:Nat) (l:Bs):Option VL :=
 Hw (Ju N l 48) (fun d =>
 bif (d.2 != (0:Int))then(some (([]:List Yq2),d.2))
 else(Ac (Dh N d.1) fun g =>
 bif (g.1==0)then(some (([]:List Yq2),7))
 else(Ap (X:=(List (Int×Bs×Bs))×List Yq2) (Y:=(List Yq2)) (U2 fun e a k m =>
 Ac (Dh N e) fun h =>
 bif decide (h.1>0)then(Hw (DJ N h.2) (fun c =>
 bif (c.2.1 != (0:Int))then(some (([]:List Yq2),c.2.1))
 else(Ac (Hy N c.1) fun f =>
 bif (f.2.1 != (0:Int))then(some (([]:List Yq2),f.2.1))
 else(chk (decide ((a.length+1)*65<=140737488355328)) <|
 k (c.2.2,a++([f.1]:List Yq2)))))
 (fun c =>
 bif (c.2.1 != (0:Int))then(some (([]:List Yq2),c.2.1))
 else(none)))
 else(m a))
 N (g.2,([]:List Yq2)) (fun b =>
 Ac (BO N b) fun j =>
 bif (j != (0:Int))then(some (([]:List Yq2),j))
 else(some (b,0))))))
 (fun d =>
 bif (d.2 != (0:Int))then(some (([]:List Yq2),d.2))
 else(none))
abbrev Aaf:Type:=Bool×Int
def OO (N:Nat) (a:Bs):Option Aaf :=
 bif (a==([0]:Bs))then(some (false,0))
 else(bif (a==([255]:Bs))then(some (true,0))
 else(some (false,7)))
abbrev jW:Type:=Bool×Int×Yq7
def Kz (N:Nat) (f:Yq7) (g:Int):Option jW :=
 Ac (Ce N f g) fun b =>
 bif !b.2.1 then(some (false,0,b.2.2))
 else(Ac (OO N b.1.2.1) fun a =>
 GL (α :=Int×List (Int×Bs×Bs)) (fun d =>
 chk ((a.2==0)||(!(a.2==0))) <|
 chk (bif (a.2==0)then(a.2==0)else true) <|
 chk (bif (a.2==0)then true else true) <|
 bif bif (a.2==0)then !a.1 else false then(d (7,b.2.2))
 else(d (a.2,b.2.2)))
 (U2 fun e c =>
 some (a.1,e,c)))
abbrev Aah:Type:=Int×Int
def Lh (N:Nat) (d:Bs):Option Aah :=
 Au (d==([]:Bs)) fun a =>
 chk (!a||(!!a)) <|
 chk (!a||(!!a)) <|
 chk (!a||(!!a)) <|
 Au (decide ((d.length:Int)>1)) fun b =>
 chk ((!a&&b)||(!(!a&&b))) <|
 chk ((decide (0<(d.length:Int)))||(!(!a&&b))) <|
 chk ((!a&&b)||(!(!a&&b))) <|
 chk ((!a&&b)||(!(!a&&b))) <|
 Au (((d.getD 0 0).toNat:Int)==0) fun f =>
 chk (((!a&&b)&&f)||(!((!a&&b)&&f))) <|
 chk ((decide (1<(d.length:Int)))||(!((!a&&b)&&f))) <|
 chk (((!a&&b)&&f)||(!((!a&&b)&&f))) <|
 chk ((!a&&b)||(!(!a&&b))) <|
 chk ((bif f then((!a&&b)&&f)else true)||(!(!a&&b))) <|
 chk ((bif f then true else true)||(!(!a&&b))) <|
 Au (bif f then decide (((d.getD 1 0).toNat:Int)<128)else false) fun o =>
 chk ((!a&&b)||(!(!a&&b))) <|
 Au (o) fun c =>
 chk (((!a&&b)&&!c)||(!((!a&&b)&&!c))) <|
 chk ((decide (0<(d.length:Int)))||(!((!a&&b)&&!c))) <|
 chk (((!a&&b)&&!c)||(!((!a&&b)&&!c))) <|
 chk (((!a&&b)&&!c)||(!((!a&&b)&&!c))) <|
 Au (((d.getD 0 0).toNat:Int)==255) fun g =>
 chk ((((!a&&b)&&!c)&&g)||(!(((!a&&b)&&!c)&&g))) <|
 chk ((decide (1<(d.length:Int)))||(!(((!a&&b)&&!c)&&g))) <|
 chk ((((!a&&b)&&!c)&&g)||(!(((!a&&b)&&!c)&&g))) <|
 chk (((!a&&b)&&!c)||(!((!a&&b)&&!c))) <|
 chk ((bif g then(((!a&&b)&&!c)&&g)else true)||(!((!a&&b)&&!c))) <|
 chk ((bif g then true else true)||(!((!a&&b)&&!c))) <|
 Au (bif g then decide (((d.getD 1 0).toNat:Int)>=128)else false) fun p =>
 chk ((!a&&b)||(!(!a&&b))) <|
 chk ((bif c then true else((!a&&b)&&!c))||(!(!a&&b))) <|
 chk ((bif c then true else true)||(!(!a&&b))) <|
 Au (bif c then true else p) fun q =>
 chk (!a||(!!a)) <|
 chk ((bif b then(!a&&b)else true)||(!!a)) <|
 chk ((bif b then true else true)||(!!a)) <|
 Au (bif b then q else false) fun r =>
 chk (bif a then true else !a) <|
 chk (bif a then true else true) <|
 Au (bif a then true else r) fun j =>
 bif j then(some (0,7))
 else(bif decide ((d.length:Int)>8)then(some (0,1))
 else(chk (decide (0<(d.length:Int))) <|
 Ap (X:=Int×Int) (Y:=Int) (U2 fun h e k m =>
 bif decide (e<(i64.wrap ((d.length:Int) - (1:Int))))then(chk (decide (0<=i64.wrap (e+1))) <|
 chk (decide (i64.wrap (e+1)<(d.length:Int))) <|
 let n:Int:=((d.getD ((i64.wrap (e+1)).toNat) 0).toNat:Int)
 k (Bi .or .i64 (i64.wrap (h*(256))) (i64.wrap n),i64.wrap (e+1)))
 else(m h))
 N (i64.wrap (IntKind.i8.wrap ((d.getD 0 0).toNat:Int)),0) (fun l =>
 some (l,0))))
abbrev mY:Type:=Int×Int
def EK (N:Nat) (c:Bs):Option mY :=
 Ac (Lh N c) fun a =>
 bif (a.2 != (0:Int))then(some (0,a.2))
 else(chk (((!(decide (a.1<0)))||(!(!(decide (a.1<0)))))) <|
 chk (bif decide (a.1<0)then true else !(decide (a.1<0))) <|
 chk (bif decide (a.1<0)then true else true) <|
 let b:Bool:=bif decide (a.1<0)then true else decide (a.1>64)
 bif b then(some (0,1))
 else(some (a.1,0)))
abbrev bH:Type:=Int×Yq4
def EE (N:Nat) (g:Bs) (a:Yq4):Option bH :=
 Hw (Ju N g 48) (fun c =>
 bif (c.2 != (0:Int))then(some (c.2,a))
 else(Ac (Kz N c.1 1) fun b =>
 bif (b.2.1 != (0:Int))then(some (b.2.1,(true,b.1,a.2.2.1,a.2.2.2.1,a.2.2.2.2.1,a.2.2.2.2.2.1,a.2.2.2.2.2.2.1,a.2.2.2.2.2.2.2.1,a.2.2.2.2.2.2.2.2.1,a.2.2.2.2.2.2.2.2.2.1,a.2.2.2.2.2.2.2.2.2.2.1,a.2.2.2.2.2.2.2.2.2.2.2.1,a.2.2.2.2.2.2.2.2.2.2.2.2.1,a.2.2.2.2.2.2.2.2.2.2.2.2.2.1,a.2.2.2.2.2.2.2.2.2.2.2.2.2.2.1,a.2.2.2.2.2.2.2.2.2.2.2.2.2.2.2.1,a.2.2.2.2.2.2.2.2.2.2.2.2.2.2.2.2.1,a.2.2.2.2.2.2.2.2.2.2.2.2.2.2.2.2.2.1,a.2.2.2.2.2.2.2.2.2.2.2.2.2.2.2.2.2.2)))
 else(Ac (Ce N b.2.2 2) fun d =>
 bif d.2.1 then(Ac (EK N d.1.2.1) fun e =>
 bif (e.2 != (0:Int))then(some (e.2,(true,b.1,e.1,a.2.2.2.1,a.2.2.2.2.1,a.2.2.2.2.2.1,a.2.2.2.2.2.2.1,a.2.2.2.2.2.2.2.1,a.2.2.2.2.2.2.2.2.1,a.2.2.2.2.2.2.2.2.2.1,a.2.2.2.2.2.2.2.2.2.2.1,a.2.2.2.2.2.2.2.2.2.2.2.1,a.2.2.2.2.2.2.2.2.2.2.2.2.1,a.2.2.2.2.2.2.2.2.2.2.2.2.2.1,a.2.2.2.2.2.2.2.2.2.2.2.2.2.2.1,a.2.2.2.2.2.2.2.2.2.2.2.2.2.2.2.1,a.2.2.2.2.2.2.2.2.2.2.2.2.2.2.2.2.1,a.2.2.2.2.2.2.2.2.2.2.2.2.2.2.2.2.2.1,a.2.2.2.2.2.2.2.2.2.2.2.2.2.2.2.2.2.2)))
 else(Ac (BP N d.2.2) fun f =>
 some (f.1,(true,b.1,e.1,a.2.2.2.1,a.2.2.2.2.1,a.2.2.2.2.2.1,a.2.2.2.2.2.2.1,a.2.2.2.2.2.2.2.1,a.2.2.2.2.2.2.2.2.1,a.2.2.2.2.2.2.2.2.2.1,a.2.2.2.2.2.2.2.2.2.2.1,a.2.2.2.2.2.2.2.2.2.2.2.1,a.2.2.2.2.2.2.2.2.2.2.2.2.1,a.2.2.2.2.2.2.2.2.2.2.2.2.2.1,a.2.2.2.2.2.2.2.2.2.2.2.2.2.2.1,a.2.2.2.2.2.2.2.2.2.2.2.2.2.2.2.1,a.2.2.2.2.2.2.2.2.2.2.2.2.2.2.2.2.1,a.2.2.2.2.2.2.2.2.2.2.2.2.2.2.2.2.2.1,a.2.2.2.2.2.2.2.2.2.2.2.2.2.2.2.2.2.2))))
 else(Ac (BP N d.2.2) fun f =>
 some (f.1,(true,b.1,a.2.2.1,a.2.2.2.1,a.2.2.2.2.1,a.2.2.2.2.2.1,a.2.2.2.2.2.2.1,a.2.2.2.2.2.2.2.1,a.2.2.2.2.2.2.2.2.1,a.2.2.2.2.2.2.2.2.2.1,a.2.2.2.2.2.2.2.2.2.2.1,a.2.2.2.2.2.2.2.2.2.2.2.1,a.2.2.2.2.2.2.2.2.2.2.2.2.1,a.2.2.2.2.2.2.2.2.2.2.2.2.2.1,a.2.2.2.2.2.2.2.2.2.2.2.2.2.2.1,a.2.2.2.2.2.2.2.2.2.2.2.2.2.2.2.1,a.2.2.2.2.2.2.2.2.2.2.2.2.2.2.2.2.1,a.2.2.2.2.2.2.2.2.2.2.2.2.2.2.2.2.2.1,a.2.2.2.2.2.2.2.2.2.2.2.2.2.2.2.2.2.2))))))
 (fun c =>
 bif (c.2 != (0:Int))then(some (c.2,a))
 else(none))
abbrev bM:Type:=Int×Yq4
def EF (N:Nat) (d:Bs) (a:Yq4):Option bM :=
 Ac (IY N d 3) fun c =>
 bif (c.2 != (0:Int))then(some (c.2,a))
 else(Ac (LQ N c.1.2.1) fun b =>
 bif (b.2 != (0:Int))then(some (b.2,(a.1,a.2.1,a.2.2.1,b.1,a.2.2.2.2.1,a.2.2.2.2.2.1,a.2.2.2.2.2.2.1,a.2.2.2.2.2.2.2.1,a.2.2.2.2.2.2.2.2.1,a.2.2.2.2.2.2.2.2.2.1,a.2.2.2.2.2.2.2.2.2.2.1,a.2.2.2.2.2.2.2.2.2.2.2.1,a.2.2.2.2.2.2.2.2.2.2.2.2.1,a.2.2.2.2.2.2.2.2.2.2.2.2.2.1,a.2.2.2.2.2.2.2.2.2.2.2.2.2.2.1,a.2.2.2.2.2.2.2.2.2.2.2.2.2.2.2.1,a.2.2.2.2.2.2.2.2.2.2.2.2.2.2.2.2.1,a.2.2.2.2.2.2.2.2.2.2.2.2.2.2.2.2.2.1,a.2.2.2.2.2.2.2.2.2.2.2.2.2.2.2.2.2.2)))
 else(bif (b.1==0)then(some (7,(a.1,a.2.1,a.2.2.1,b.1,a.2.2.2.2.1,a.2.2.2.2.2.1,a.2.2.2.2.2.2.1,a.2.2.2.2.2.2.2.1,a.2.2.2.2.2.2.2.2.1,a.2.2.2.2.2.2.2.2.2.1,a.2.2.2.2.2.2.2.2.2.2.1,a.2.2.2.2.2.2.2.2.2.2.2.1,a.2.2.2.2.2.2.2.2.2.2.2.2.1,a.2.2.2.2.2.2.2.2.2.2.2.2.2.1,a.2.2.2.2.2.2.2.2.2.2.2.2.2.2.1,a.2.2.2.2.2.2.2.2.2.2.2.2.2.2.2.1,a.2.2.2.2.2.2.2.2.2.2.2.2.2.2.2.2.1,a.2.2.2.2.2.2.2.2.2.2.2.2.2.2.2.2.2.1,a.2.2.2.2.2.2.2.2.2.2.2.2.2.2.2.2.2.2)))
 else(some (0,(a.1,a.2.1,a.2.2.1,b.1,a.2.2.2.2.1,a.2.2.2.2.2.1,a.2.2.2.2.2.2.1,a.2.2.2.2.2.2.2.1,a.2.2.2.2.2.2.2.2.1,a.2.2.2.2.2.2.2.2.2.1,a.2.2.2.2.2.2.2.2.2.2.1,a.2.2.2.2.2.2.2.2.2.2.2.1,a.2.2.2.2.2.2.2.2.2.2.2.2.1,a.2.2.2.2.2.2.2.2.2.2.2.2.2.1,a.2.2.2.2.2.2.2.2.2.2.2.2.2.2.1,a.2.2.2.2.2.2.2.2.2.2.2.2.2.2.2.1,a.2.2.2.2.2.2.2.2.2.2.2.2.2.2.2.2.1,a.2.2.2.2.2.2.2.2.2.2.2.2.2.2.2.2.2.1,a.2.2.2.2.2.2.2.2.2.2.2.2.2.2.2.2.2.2)))))
abbrev y8:Type:=(Yq7×Int) ⊕ (Unit×Int)
def Hg (N:Nat) (c:Bs):Option y8 :=
 Hw (Ju N c 48) (fun a =>
 bif (a.2 != (0:Int))then(some (.inr ((),a.2)))
 else(Ac (Dh N a.1) fun b =>
 bif (b.1==0)then(some (.inr ((),7)))
 else(some (.inl (b.2,0)))))
 (fun a =>
 bif (a.2 != (0:Int))then(some (.inr ((),a.2)))
 else(none))
abbrev rP:Type:=Bs×Int×Yq7
def Ib (N:Nat) (c:Yq7):Option rP :=
 Ac (Fe N c 6) fun a =>
 bif (a.2.1 != (0:Int))then(some (([]:Bs),a.2.1,a.2.2))
 else(Ac (OH N a.1.2.1) fun b =>
 some (b.1,b.2,a.2.2))
abbrev Xm:Type:=Int×Yq4
def DN (N:Nat) (ax:Bs) (b:Yq4):Option Xm :=
 Hw (Hg N ax) (fun a =>
 Ap (X:=Int×Bool×Bool×Int×Int×Int×Int×Int×List Yq1×Bool×List Yq1×List Yq1×Bs×Bs×List Yq2×List Yq2×List Bs×(List (Bs×Bs))×(List (Bs×Bool×Bs))×(List (Int×Bs×Bs))×List Bs) (Y:=(Int×Bool×Bool×Int×Int×Int×Int×Int×List Yq1×Bool×List Yq1×List Yq1×Bs×Bs×List Yq2×List Yq2×List Bs×(List (Bs×Bs))×(List (Bs×Bool×Bs))×List Bs)) (U21 fun e o p q r s t u f g h j k l m n ae af ag c d aw ay =>
 chk ((e==0)||(!(e==0))) <|
 chk (((Dh N c).isSome)||(!(e==0))) <|
 let au:=(Dh N c).getD default
 chk ((e==0)||(!(e==0))) <|
 chk (bif (e==0)then(e==0)else true) <|
 chk (bif (e==0)then true else true) <|
 bif bif (e==0)then decide (au.1>0)else false then(Ac (Ib N (bif (e==0)then au.2 else c)) fun ao =>
 chk (decide ((d.length+1)*17<=140737488355328)) <|
 aw (ao.2.1,o,p,q,r,s,t,u,f,g,h,j,k,l,m,n,ae,af,ag,ao.2.2,d++([ao.1]:List Bs)))
 else(ay (e,o,p,q,r,s,t,u,f,g,h,j,k,l,m,n,ae,af,ag,d)))
 (N+1) (a.2,b.1,b.2.1,b.2.2.1,b.2.2.2.1,b.2.2.2.2.2.2.2.1,b.2.2.2.2.2.2.2.2.1,b.2.2.2.2.2.2.2.2.2.1,b.2.2.2.2.2.2.2.2.2.2.1,b.2.2.2.2.2.2.2.2.2.2.2.1,b.2.2.2.2.2.2.2.2.2.2.2.2.1,b.2.2.2.2.2.2.2.2.2.2.2.2.2.1,b.2.2.2.2.2.2.2.2.2.2.2.2.2.2.1,b.2.2.2.2.2.2.2.2.2.2.2.2.2.2.2.1,b.2.2.2.2.2.2.2.2.2.2.2.2.2.2.2.2.1,b.2.2.2.2.2.2.2.2.2.2.2.2.2.2.2.2.2.1,b.2.2.2.2.2.1,b.2.2.2.2.2.2.1,b.2.2.2.2.2.2.2.2.2.2.2.2.2.2.2.2.2.2,a.1,b.2.2.2.2.1) (U20 fun av ah ai aj ak al am an w x y z aa ab ac ad ap aq ar v =>
 some (av,(ah,ai,aj,ak,v,ap,aq,al,am,an,w,x,y,z,aa,ab,ac,ad,ar))))
 (fun a =>
 chk ((a.2==0)||(!(a.2==0))) <|
 chk (!(a.2==0)) <|
 chk (!(a.2==0)) <|
 chk (!(a.2==0)) <|
 chk (!(a.2==0)) <|
 chk (!(a.2==0)) <|
 chk ((a.2==0)||(!(a.2==0))) <|
 chk (!(a.2==0)) <|
 chk (!(a.2==0)) <|
 chk (bif (a.2==0)then(a.2==0)else true) <|
 chk (bif (a.2==0)then false else true) <|
 bif bif (a.2==0)then false else false then(none)
 else(some (a.2,b)))
abbrev UM:Type:=Yq4
def IW (N:Nat) (b:List Bs) (a:Yq4):Option UM :=
 chk (decide (0<(b.length:Int))) <|
 chk (decide ((a.2.2.2.2.2.1.length+1)*17<=140737488355328)) <|
 some (a.1,a.2.1,a.2.2.1,a.2.2.2.1,a.2.2.2.2.1,a.2.2.2.2.2.1++([(b.getD 0 [])]:List Bs),a.2.2.2.2.2.2.1,a.2.2.2.2.2.2.2.1,a.2.2.2.2.2.2.2.2.1,a.2.2.2.2.2.2.2.2.2.1,a.2.2.2.2.2.2.2.2.2.2.1,a.2.2.2.2.2.2.2.2.2.2.2.1,a.2.2.2.2.2.2.2.2.2.2.2.2.1,a.2.2.2.2.2.2.2.2.2.2.2.2.2.1,a.2.2.2.2.2.2.2.2.2.2.2.2.2.2.1,a.2.2.2.2.2.2.2.2.2.2.2.2.2.2.2.1,a.2.2.2.2.2.2.2.2.2.2.2.2.2.2.2.2.1,a.2.2.2.2.2.2.2.2.2.2.2.2.2.2.2.2.2.1,a.2.2.2.2.2.2.2.2.2.2.2.2.2.2.2.2.2.2)
def Ais (N n:Nat) (a:List Bs×Yq4):Option (Yq4) :=
  bif Nat.beq n 198 then IW N a.1 a.2 else
  none
abbrev bT:Type:=Int×Yq4
def Jq (N:Nat) (bi:Bs) (bf:Int) (g:Yq4):Option bT :=
 Hw (Hg N bi) (fun aO =>
 bif (aO.2 != (0:Int))then(some (aO.2,g))
 else(Ap (X:=Bool×Bool×Int×Int×Int×Int×Int×List Yq1×Bool×List Yq1×List Yq1×Bs×Bs×List Yq2×List Yq2×(List (Int×Bs×Bs))×(List (Bs×Bool×Bs))×(List (Bs×Bs))×List Bs×List Bs) (Y:=(Bool×Bool×Int×Int×Int×Int×Int×List Yq1×Bool×List Yq1×List Yq1×Bs×Bs×List Yq2×List Yq2×(List (Bs×Bool×Bs))×(List (Bs×Bs))×List Bs×List Bs)) (U20 fun u v w x y z aa h j k l m n o p aP b c d e bg bj =>
 Ac (Dh N aP) fun bd =>
 bif decide (bd.1>0)then(Hw (DJ N bd.2) (fun aG =>
 bif (aG.2.1 != (0:Int))then(some (aG.2.1,(u,v,w,x,e,d,c,y,z,aa,h,j,k,l,m,n,o,p,b)))
 else(Ap (X:=Bool×Bool×Int×Int×Int×Int×Int×List Yq1×Bool×List Yq1×List Yq1×Bs×Bs×List Yq2×List Yq2×(List (Int×Bs×Bs))×(List (Int×Bs×Bs))×List Bs×(List (Bs×Bool×Bs))×(List (Bs×Bs))×List Bs×List Bs) (Y:=(Bool×Bool×Int×Int×Int×Int×Int×List Yq1×Bool×List Yq1×List Yq1×Bs×Bs×List Yq2×List Yq2×(List (Int×Bs×Bs))×(List (Int×Bs×Bs))×List Bs×(List (Bs×Bool×Bs))×(List (Bs×Bs))×List Bs×List Bs)) (U22 fun aj ak al am an ao ap ab ac ad ae af ag ah ai aq ar f q r s t bh bk =>
 bif decide ((f.length:Int)<bf)then(Ac (Ib N ar) fun a5 =>
 bif (a5.2.1 != (0:Int))then(some (a5.2.1,(aj,ak,al,am,t,s,r,an,ao,ap,ab,ac,ad,ae,af,ag,ah,ai,q)))
 else(chk (decide ((f.length+1)*17<=140737488355328)) <|
 bh (aj,ak,al,am,an,ao,ap,ab,ac,ad,ae,af,ag,ah,ai,aq,a5.2.2,f++([a5.1]:List Bs),q,r,s,t)))
 else(bk (aj,ak,al,am,an,ao,ap,ab,ac,ad,ae,af,ag,ah,ai,aq,ar,f,q,r,s,t)))
 (N+1) (u,v,w,x,y,z,aa,h,j,k,l,m,n,o,p,aG.2.2,aG.1,([]:List Bs),b,c,d,e) (U22 fun aH aI aJ aK aL aM aN ay az aA aB aC aD aE aF aQ aR aS au av aw ax =>
 Ac (BP N aR) fun be =>
 bif (be.1 != (0:Int))then(some (be.1,(aH,aI,aJ,aK,ax,aw,av,aL,aM,aN,ay,az,aA,aB,aC,aD,aE,aF,au)))
 else(Ac (Ais N 198 (aS,(aH,aI,aJ,aK,ax,aw,av,aL,aM,aN,ay,az,aA,aB,aC,aD,aE,aF,au))) fun a =>
 bg (a.1,a.2.1,a.2.2.1,a.2.2.2.1,a.2.2.2.2.2.2.2.1,a.2.2.2.2.2.2.2.2.1,a.2.2.2.2.2.2.2.2.2.1,a.2.2.2.2.2.2.2.2.2.2.1,a.2.2.2.2.2.2.2.2.2.2.2.1,a.2.2.2.2.2.2.2.2.2.2.2.2.1,a.2.2.2.2.2.2.2.2.2.2.2.2.2.1,a.2.2.2.2.2.2.2.2.2.2.2.2.2.2.1,a.2.2.2.2.2.2.2.2.2.2.2.2.2.2.2.1,a.2.2.2.2.2.2.2.2.2.2.2.2.2.2.2.2.1,a.2.2.2.2.2.2.2.2.2.2.2.2.2.2.2.2.2.1,aQ,a.2.2.2.2.2.2.2.2.2.2.2.2.2.2.2.2.2.2,a.2.2.2.2.2.2.1,a.2.2.2.2.2.1,a.2.2.2.2.1)))))
 (fun aG =>
 bif (aG.2.1 != (0:Int))then(some (aG.2.1,(u,v,w,x,e,d,c,y,z,aa,h,j,k,l,m,n,o,p,b)))
 else(bif decide (0<bf)then(none)
 else(none))))
 else(bj (u,v,w,x,y,z,aa,h,j,k,l,m,n,o,p,b,c,d,e)))
 (N+1) (g.1,g.2.1,g.2.2.1,g.2.2.2.1,g.2.2.2.2.2.2.2.1,g.2.2.2.2.2.2.2.2.1,g.2.2.2.2.2.2.2.2.2.1,g.2.2.2.2.2.2.2.2.2.2.1,g.2.2.2.2.2.2.2.2.2.2.2.1,g.2.2.2.2.2.2.2.2.2.2.2.2.1,g.2.2.2.2.2.2.2.2.2.2.2.2.2.1,g.2.2.2.2.2.2.2.2.2.2.2.2.2.2.1,g.2.2.2.2.2.2.2.2.2.2.2.2.2.2.2.1,g.2.2.2.2.2.2.2.2.2.2.2.2.2.2.2.2.1,g.2.2.2.2.2.2.2.2.2.2.2.2.2.2.2.2.2.1,aO.1,g.2.2.2.2.2.2.2.2.2.2.2.2.2.2.2.2.2.2,g.2.2.2.2.2.2.1,g.2.2.2.2.2.1,g.2.2.2.2.1) (U19 fun a6 a7 a8 a9 ba bb bc aX aY aZ a0 a1 a2 a3 a4 aT aU aV aW =>
 some (0,(a6,a7,a8,a9,aW,aV,aU,ba,bb,bc,aX,aY,aZ,a0,a1,a2,a3,a4,aT)))))
 (fun aO =>
 bif (aO.2 != (0:Int))then(some (aO.2,g))
 else(none))
abbrev Xj:Type:=Int×Yq4
def DL (N:Nat) (b:Bs) (c:Yq4):Option Xj :=
 Ac (Jq N b 1 c) fun a =>
 some (a.1,a.2)
abbrev UK:Type:=Yq4
def IV (N:Nat) (c:List Bs) (a:Yq4):Option UK :=
 chk (decide (0<(c.length:Int))) <|
 chk (decide (1<(c.length:Int))) <|
 chk (decide ((a.2.2.2.2.2.2.1.length+1)*33<=140737488355328)) <|
 let b:List (Bs×Bs):=a.2.2.2.2.2.2.1++([((c.getD 0 []),(c.getD 1 []))]:List (Bs×Bs))
 some (a.1,a.2.1,a.2.2.1,a.2.2.2.1,a.2.2.2.2.1,a.2.2.2.2.2.1,b,a.2.2.2.2.2.2.2.1,a.2.2.2.2.2.2.2.2.1,a.2.2.2.2.2.2.2.2.2.1,a.2.2.2.2.2.2.2.2.2.2.1,a.2.2.2.2.2.2.2.2.2.2.2.1,a.2.2.2.2.2.2.2.2.2.2.2.2.1,a.2.2.2.2.2.2.2.2.2.2.2.2.2.1,a.2.2.2.2.2.2.2.2.2.2.2.2.2.2.1,a.2.2.2.2.2.2.2.2.2.2.2.2.2.2.2.1,a.2.2.2.2.2.2.2.2.2.2.2.2.2.2.2.2.1,a.2.2.2.2.2.2.2.2.2.2.2.2.2.2.2.2.2.1,a.2.2.2.2.2.2.2.2.2.2.2.2.2.2.2.2.2.2)
def Aiu (N n:Nat) (a:List Bs×Yq4):Option (Yq4) :=
  bif Nat.beq n 199 then IV N a.1 a.2 else
  none
abbrev bV:Type:=Int×Yq4
def Jr (N:Nat) (bi:Bs) (bf:Int) (g:Yq4):Option bV :=
 Hw (Hg N bi) (fun aO =>
 bif (aO.2 != (0:Int))then(some (aO.2,g))
 else(Ap (X:=Bool×Bool×Int×Int×Int×Int×Int×List Yq1×Bool×List Yq1×List Yq1×Bs×Bs×List Yq2×List Yq2×(List (Int×Bs×Bs))×(List (Bs×Bool×Bs))×(List (Bs×Bs))×List Bs×List Bs) (Y:=(Bool×Bool×Int×Int×Int×Int×Int×List Yq1×Bool×List Yq1×List Yq1×Bs×Bs×List Yq2×List Yq2×(List (Bs×Bool×Bs))×(List (Bs×Bs))×List Bs×List Bs)) (U20 fun u v w x y z aa h j k l m n o p aP b c d e bg bj =>
 Ac (Dh N aP) fun bd =>
 bif decide (bd.1>0)then(Hw (DJ N bd.2) (fun aG =>
 bif (aG.2.1 != (0:Int))then(some (aG.2.1,(u,v,w,x,e,d,c,y,z,aa,h,j,k,l,m,n,o,p,b)))
 else(Ap (X:=Bool×Bool×Int×Int×Int×Int×Int×List Yq1×Bool×List Yq1×List Yq1×Bs×Bs×List Yq2×List Yq2×(List (Int×Bs×Bs))×(List (Int×Bs×Bs))×List Bs×(List (Bs×Bool×Bs))×(List (Bs×Bs))×List Bs×List Bs) (Y:=(Bool×Bool×Int×Int×Int×Int×Int×List Yq1×Bool×List Yq1×List Yq1×Bs×Bs×List Yq2×List Yq2×(List (Int×Bs×Bs))×(List (Int×Bs×Bs))×List Bs×(List (Bs×Bool×Bs))×(List (Bs×Bs))×List Bs×List Bs)) (U22 fun aj ak al am an ao ap ab ac ad ae af ag ah ai aq ar f q r s t bh bk =>
 bif decide ((f.length:Int)<bf)then(Ac (Ib N ar) fun a5 =>
 bif (a5.2.1 != (0:Int))then(some (a5.2.1,(aj,ak,al,am,t,s,r,an,ao,ap,ab,ac,ad,ae,af,ag,ah,ai,q)))
 else(chk (decide ((f.length+1)*17<=140737488355328)) <|
 bh (aj,ak,al,am,an,ao,ap,ab,ac,ad,ae,af,ag,ah,ai,aq,a5.2.2,f++([a5.1]:List Bs),q,r,s,t)))
 else(bk (aj,ak,al,am,an,ao,ap,ab,ac,ad,ae,af,ag,ah,ai,aq,ar,f,q,r,s,t)))
 (N+1) (u,v,w,x,y,z,aa,h,j,k,l,m,n,o,p,aG.2.2,aG.1,([]:List Bs),b,c,d,e) (U22 fun aH aI aJ aK aL aM aN ay az aA aB aC aD aE aF aQ aR aS au av aw ax =>
 Ac (BP N aR) fun be =>
 bif (be.1 != (0:Int))then(some (be.1,(aH,aI,aJ,aK,ax,aw,av,aL,aM,aN,ay,az,aA,aB,aC,aD,aE,aF,au)))
 else(Ac (Aiu N 199 (aS,(aH,aI,aJ,aK,ax,aw,av,aL,aM,aN,ay,az,aA,aB,aC,aD,aE,aF,au))) fun a =>
 bg (a.1,a.2.1,a.2.2.1,a.2.2.2.1,a.2.2.2.2.2.2.2.1,a.2.2.2.2.2.2.2.2.1,a.2.2.2.2.2.2.2.2.2.1,a.2.2.2.2.2.2.2.2.2.2.1,a.2.2.2.2.2.2.2.2.2.2.2.1,a.2.2.2.2.2.2.2.2.2.2.2.2.1,a.2.2.2.2.2.2.2.2.2.2.2.2.2.1,a.2.2.2.2.2.2.2.2.2.2.2.2.2.2.1,a.2.2.2.2.2.2.2.2.2.2.2.2.2.2.2.1,a.2.2.2.2.2.2.2.2.2.2.2.2.2.2.2.2.1,a.2.2.2.2.2.2.2.2.2.2.2.2.2.2.2.2.2.1,aQ,a.2.2.2.2.2.2.2.2.2.2.2.2.2.2.2.2.2.2,a.2.2.2.2.2.2.1,a.2.2.2.2.2.1,a.2.2.2.2.1)))))
 (fun aG =>
 bif (aG.2.1 != (0:Int))then(some (aG.2.1,(u,v,w,x,e,d,c,y,z,aa,h,j,k,l,m,n,o,p,b)))
 else(bif decide (0<bf)then(none)
 else(none))))
 else(bj (u,v,w,x,y,z,aa,h,j,k,l,m,n,o,p,b,c,d,e)))
 (N+1) (g.1,g.2.1,g.2.2.1,g.2.2.2.1,g.2.2.2.2.2.2.2.1,g.2.2.2.2.2.2.2.2.1,g.2.2.2.2.2.2.2.2.2.1,g.2.2.2.2.2.2.2.2.2.2.1,g.2.2.2.2.2.2.2.2.2.2.2.1,g.2.2.2.2.2.2.2.2.2.2.2.2.1,g.2.2.2.2.2.2.2.2.2.2.2.2.2.1,g.2.2.2.2.2.2.2.2.2.2.2.2.2.2.1,g.2.2.2.2.2.2.2.2.2.2.2.2.2.2.2.1,g.2.2.2.2.2.2.2.2.2.2.2.2.2.2.2.2.1,g.2.2.2.2.2.2.2.2.2.2.2.2.2.2.2.2.2.1,aO.1,g.2.2.2.2.2.2.2.2.2.2.2.2.2.2.2.2.2.2,g.2.2.2.2.2.2.1,g.2.2.2.2.2.1,g.2.2.2.2.1) (U19 fun a6 a7 a8 a9 ba bb bc aX aY aZ a0 a1 a2 a3 a4 aT aU aV aW =>
 some (0,(a6,a7,a8,a9,aW,aV,aU,ba,bb,bc,aX,aY,aZ,a0,a1,a2,a3,a4,aT)))))
 (fun aO =>
 bif (aO.2 != (0:Int))then(some (aO.2,g))
 else(none))
abbrev Xg:Type:=Int×Yq4
def DK (N:Nat) (b:Bs) (c:Yq4):Option Xg :=
 Ac (Jr N b 2 c) fun a =>
 some (a.1,a.2)
abbrev ZG:Type:=Int×Yq4
def Eh (N:Nat) (h:Bs) (a:Yq4):Option ZG :=
 Hw (Hg N h) (fun f =>
 bif (f.2 != (0:Int))then(some (f.2,a))
 else(Ac (Ce N f.1 128) fun g =>
 bif g.2.1 then(Ac (EK N g.1.2.1) fun d =>
 bif (d.2 != (0:Int))then(some (d.2,(a.1,a.2.1,a.2.2.1,a.2.2.2.1,a.2.2.2.2.1,a.2.2.2.2.2.1,a.2.2.2.2.2.2.1,d.1,a.2.2.2.2.2.2.2.2.1,a.2.2.2.2.2.2.2.2.2.1,a.2.2.2.2.2.2.2.2.2.2.1,a.2.2.2.2.2.2.2.2.2.2.2.1,a.2.2.2.2.2.2.2.2.2.2.2.2.1,a.2.2.2.2.2.2.2.2.2.2.2.2.2.1,a.2.2.2.2.2.2.2.2.2.2.2.2.2.2.1,a.2.2.2.2.2.2.2.2.2.2.2.2.2.2.2.1,a.2.2.2.2.2.2.2.2.2.2.2.2.2.2.2.2.1,a.2.2.2.2.2.2.2.2.2.2.2.2.2.2.2.2.2.1,a.2.2.2.2.2.2.2.2.2.2.2.2.2.2.2.2.2.2)))
 else(Ac (Ce N g.2.2 129) fun b =>
 bif b.2.1 then(Ac (EK N b.1.2.1) fun c =>
 bif (c.2 != (0:Int))then(some (c.2,(a.1,a.2.1,a.2.2.1,a.2.2.2.1,a.2.2.2.2.1,a.2.2.2.2.2.1,a.2.2.2.2.2.2.1,d.1,c.1,a.2.2.2.2.2.2.2.2.2.1,a.2.2.2.2.2.2.2.2.2.2.1,a.2.2.2.2.2.2.2.2.2.2.2.1,a.2.2.2.2.2.2.2.2.2.2.2.2.1,a.2.2.2.2.2.2.2.2.2.2.2.2.2.1,a.2.2.2.2.2.2.2.2.2.2.2.2.2.2.1,a.2.2.2.2.2.2.2.2.2.2.2.2.2.2.2.1,a.2.2.2.2.2.2.2.2.2.2.2.2.2.2.2.2.1,a.2.2.2.2.2.2.2.2.2.2.2.2.2.2.2.2.2.1,a.2.2.2.2.2.2.2.2.2.2.2.2.2.2.2.2.2.2)))
 else(Ac (BP N b.2.2) fun e =>
 some (e.1,(a.1,a.2.1,a.2.2.1,a.2.2.2.1,a.2.2.2.2.1,a.2.2.2.2.2.1,a.2.2.2.2.2.2.1,d.1,c.1,a.2.2.2.2.2.2.2.2.2.1,a.2.2.2.2.2.2.2.2.2.2.1,a.2.2.2.2.2.2.2.2.2.2.2.1,a.2.2.2.2.2.2.2.2.2.2.2.2.1,a.2.2.2.2.2.2.2.2.2.2.2.2.2.1,a.2.2.2.2.2.2.2.2.2.2.2.2.2.2.1,a.2.2.2.2.2.2.2.2.2.2.2.2.2.2.2.1,a.2.2.2.2.2.2.2.2.2.2.2.2.2.2.2.2.1,a.2.2.2.2.2.2.2.2.2.2.2.2.2.2.2.2.2.1,a.2.2.2.2.2.2.2.2.2.2.2.2.2.2.2.2.2.2))))
 else(Ac (BP N b.2.2) fun e =>
 some (e.1,(a.1,a.2.1,a.2.2.1,a.2.2.2.1,a.2.2.2.2.1,a.2.2.2.2.2.1,a.2.2.2.2.2.2.1,d.1,a.2.2.2.2.2.2.2.2.1,a.2.2.2.2.2.2.2.2.2.1,a.2.2.2.2.2.2.2.2.2.2.1,a.2.2.2.2.2.2.2.2.2.2.2.1,a.2.2.2.2.2.2.2.2.2.2.2.2.1,a.2.2.2.2.2.2.2.2.2.2.2.2.2.1,a.2.2.2.2.2.2.2.2.2.2.2.2.2.2.1,a.2.2.2.2.2.2.2.2.2.2.2.2.2.2.2.1,a.2.2.2.2.2.2.2.2.2.2.2.2.2.2.2.2.1,a.2.2.2.2.2.2.2.2.2.2.2.2.2.2.2.2.2.1,a.2.2.2.2.2.2.2.2.2.2.2.2.2.2.2.2.2.2)))))
 else(Ac (Ce N g.2.2 129) fun b =>
 bif b.2.1 then(Ac (EK N b.1.2.1) fun c =>
 bif (c.2 != (0:Int))then(some (c.2,(a.1,a.2.1,a.2.2.1,a.2.2.2.1,a.2.2.2.2.1,a.2.2.2.2.2.1,a.2.2.2.2.2.2.1,a.2.2.2.2.2.2.2.1,c.1,a.2.2.2.2.2.2.2.2.2.1,a.2.2.2.2.2.2.2.2.2.2.1,a.2.2.2.2.2.2.2.2.2.2.2.1,a.2.2.2.2.2.2.2.2.2.2.2.2.1,a.2.2.2.2.2.2.2.2.2.2.2.2.2.1,a.2.2.2.2.2.2.2.2.2.2.2.2.2.2.1,a.2.2.2.2.2.2.2.2.2.2.2.2.2.2.2.1,a.2.2.2.2.2.2.2.2.2.2.2.2.2.2.2.2.1,a.2.2.2.2.2.2.2.2.2.2.2.2.2.2.2.2.2.1,a.2.2.2.2.2.2.2.2.2.2.2.2.2.2.2.2.2.2)))
 else(Ac (BP N b.2.2) fun e =>
 some (e.1,(a.1,a.2.1,a.2.2.1,a.2.2.2.1,a.2.2.2.2.1,a.2.2.2.2.2.1,a.2.2.2.2.2.2.1,a.2.2.2.2.2.2.2.1,c.1,a.2.2.2.2.2.2.2.2.2.1,a.2.2.2.2.2.2.2.2.2.2.1,a.2.2.2.2.2.2.2.2.2.2.2.1,a.2.2.2.2.2.2.2.2.2.2.2.2.1,a.2.2.2.2.2.2.2.2.2.2.2.2.2.1,a.2.2.2.2.2.2.2.2.2.2.2.2.2.2.1,a.2.2.2.2.2.2.2.2.2.2.2.2.2.2.2.1,a.2.2.2.2.2.2.2.2.2.2.2.2.2.2.2.2.1,a.2.2.2.2.2.2.2.2.2.2.2.2.2.2.2.2.2.1,a.2.2.2.2.2.2.2.2.2.2.2.2.2.2.2.2.2.2))))
 else(Ac (BP N b.2.2) fun e =>
 some (e.1,a)))))
 (fun f =>
 bif (f.2 != (0:Int))then(some (f.2,a))
 else(none))
abbrev Yr:Type:=Int×Yq4
def DU (N:Nat) (d:Bs) (a:Yq4):Option Yr :=
 Ac (IY N d 2) fun c =>
 bif (c.2 != (0:Int))then(some (c.2,a))
 else(Ac (EK N c.1.2.1) fun b =>
 some (b.2,(a.1,a.2.1,a.2.2.1,a.2.2.2.1,a.2.2.2.2.1,a.2.2.2.2.2.1,a.2.2.2.2.2.2.1,a.2.2.2.2.2.2.2.1,a.2.2.2.2.2.2.2.2.1,b.1,a.2.2.2.2.2.2.2.2.2.2.1,a.2.2.2.2.2.2.2.2.2.2.2.1,a.2.2.2.2.2.2.2.2.2.2.2.2.1,a.2.2.2.2.2.2.2.2.2.2.2.2.2.1,a.2.2.2.2.2.2.2.2.2.2.2.2.2.2.1,a.2.2.2.2.2.2.2.2.2.2.2.2.2.2.2.1,a.2.2.2.2.2.2.2.2.2.2.2.2.2.2.2.2.1,a.2.2.2.2.2.2.2.2.2.2.2.2.2.2.2.2.2.1,a.2.2.2.2.2.2.2.2.2.2.2.2.2.2.2.2.2.2)))
abbrev bJ:Type:=Int×Yq4
def FN (N:Nat) (d:Bs) (a:Yq4):Option bJ :=
 Ac (IY N d 48) fun c =>
 bif (c.2 != (0:Int))then(some (c.2,a))
 else(Ac (DF N c.1.2.1) fun b =>
 some (b.2,(a.1,a.2.1,a.2.2.1,a.2.2.2.1,a.2.2.2.2.1,a.2.2.2.2.2.1,a.2.2.2.2.2.2.1,a.2.2.2.2.2.2.2.1,a.2.2.2.2.2.2.2.2.1,a.2.2.2.2.2.2.2.2.2.1,b.1,a.2.2.2.2.2.2.2.2.2.2.2.1,a.2.2.2.2.2.2.2.2.2.2.2.2.1,a.2.2.2.2.2.2.2.2.2.2.2.2.2.1,a.2.2.2.2.2.2.2.2.2.2.2.2.2.2.1,a.2.2.2.2.2.2.2.2.2.2.2.2.2.2.2.1,a.2.2.2.2.2.2.2.2.2.2.2.2.2.2.2.2.1,a.2.2.2.2.2.2.2.2.2.2.2.2.2.2.2.2.2.1,a.2.2.2.2.2.2.2.2.2.2.2.2.2.2.2.2.2.2)))
abbrev Zo:Type:=List Yq1×Int
def BG (N:Nat) (h:Bs):Option Zo :=
 Ac (DR N h) fun c =>
 bif (c.2 != (0:Int))then(some (([]:List Yq1),c.2))
 else(bif ((c.1.length:Int)==0)then(some (([]:List Yq1),7))
 else(Ap (X:=Int×List Yq1) (Y:=(List Yq1)) (U2 fun b a g j =>
 bif decide (b<(c.1.length:Int))then(chk (decide (0<=b)) <|
 chk (decide (b<(c.1.length:Int))) <|
 bif (((c.1.getD b.toNat (0,[],[])).1) != (48:Int))then(some (([]:List Yq1),5))
 else(Ac (DR N ((c.1.getD b.toNat (0,[],[])).2.1)) fun d =>
 bif (d.2 != (0:Int))then(some (([]:List Yq1),d.2))
 else(bif ((d.1.length:Int)==0)then(some (([]:List Yq1),3))
 else(chk (decide (0<(d.1.length:Int))) <|
 Ac (Je N (d.1.getD 0 (0,[],[])) true) fun f =>
 bif (f.2 != (0:Int))then(some (([]:List Yq1),f.2))
 else(bif decide ((d.1.length:Int)>1)then(some (([]:List Yq1),4))
 else(chk (decide ((a.length+1)*49<=140737488355328)) <|
 g (i64.wrap (b+1),a++([f.1]:List Yq1))))))))
 else(j a))
 N (0,([]:List Yq1)) (fun e =>
 some (e,0))))
abbrev qO:Type:=Yq6×Int
def Ed (N:Nat) (k:Bs):Option qO :=
 Ac (NZ N k) fun f =>
 bif (f.2 != (0:Int))then(some ((([]:List Yq1),([]:List Yq1)),f.2))
 else(bif (f.1.1 != (48:Int))then(some ((([]:List Yq1),([]:List Yq1)),5))
 else(Ac (DR N f.1.2.1) fun a =>
 bif (a.2 != (0:Int))then(some ((([]:List Yq1),([]:List Yq1)),a.2))
 else(chk (((!((a.1.length:Int)==0))||(!(!((a.1.length:Int)==0))))) <|
 chk ((decide (0<(a.1.length:Int)))||(!(!((a.1.length:Int)==0)))) <|
 chk ((!((a.1.length:Int)==0))||(!(!((a.1.length:Int)==0)))) <|
 chk ((!((a.1.length:Int)==0))||(!(!((a.1.length:Int)==0)))) <|
 chk ((!((a.1.length:Int)==0))||(!(!((a.1.length:Int)==0)))) <|
 chk ((!((a.1.length:Int)==0))||(!(!((a.1.length:Int)==0)))) <|
 chk ((!((a.1.length:Int)==0))||(!(!((a.1.length:Int)==0)))) <|
 chk (bif ((a.1.length:Int)==0)then true else !((a.1.length:Int)==0)) <|
 chk (bif ((a.1.length:Int)==0)then true else true) <|
 let h:Bool:=bif ((a.1.length:Int)==0)then true else(((a.1.getD 0 (0,[],[])).1) != (160:Int))
 bif h then(chk (((!((a.1.length:Int)==0))||(!(!((a.1.length:Int)==0))))) <|
 chk ((decide (0<(a.1.length:Int)))||(!(!((a.1.length:Int)==0)))) <|
 chk ((!((a.1.length:Int)==0))||(!(!((a.1.length:Int)==0)))) <|
 chk ((!((a.1.length:Int)==0))||(!(!((a.1.length:Int)==0)))) <|
 chk ((!((a.1.length:Int)==0))||(!(!((a.1.length:Int)==0)))) <|
 chk ((!((a.1.length:Int)==0))||(!(!((a.1.length:Int)==0)))) <|
 chk ((!((a.1.length:Int)==0))||(!(!((a.1.length:Int)==0)))) <|
 chk (bif ((a.1.length:Int)==0)then true else !((a.1.length:Int)==0)) <|
 chk (bif ((a.1.length:Int)==0)then true else true) <|
 let e:Bool:=bif ((a.1.length:Int)==0)then true else(((a.1.getD 0 (0,[],[])).1) != (161:Int))
 bif e then(bif decide ((a.1.length:Int)>0)then(some ((([]:List Yq1),([]:List Yq1)),4))
 else(Ac (Du N (([]:List Yq1),([]:List Yq1))) fun c =>
 bif (c != (0:Int))then(some ((([]:List Yq1),([]:List Yq1)),c))
 else(some ((([]:List Yq1),([]:List Yq1)),0))))
 else(chk (decide (0<(a.1.length:Int))) <|
 Ac (BG N ((a.1.getD 0 (0,[],[])).2.1)) fun b =>
 bif (b.2 != (0:Int))then(some ((([]:List Yq1),([]:List Yq1)),b.2))
 else(chk (decide (1<=(a.1.length:Int))) <|
 bif decide (((AA a.1 1 a.1.length).length:Int)>0)then(some ((([]:List Yq1),([]:List Yq1)),4))
 else(Ac (Du N (([]:List Yq1),b.1)) fun c =>
 bif (c != (0:Int))then(some ((([]:List Yq1),([]:List Yq1)),c))
 else(some ((([]:List Yq1),b.1),0))))))
 else(chk (decide (0<(a.1.length:Int))) <|
 Ac (BG N ((a.1.getD 0 (0,[],[])).2.1)) fun d =>
 bif (d.2 != (0:Int))then(some ((([]:List Yq1),([]:List Yq1)),d.2))
 else(chk (decide (1<=(a.1.length:Int))) <|
 chk ((!(((AA a.1 1 a.1.length).length:Int)==0))||(!(!(((AA a.1 1 a.1.length).length:Int)==0)))) <|
 chk ((decide (0<((AA a.1 1 a.1.length).length:Int)))||(!(!(((AA a.1 1 a.1.length).length:Int)==0)))) <|
 chk ((!(((AA a.1 1 a.1.length).length:Int)==0))||(!(!(((AA a.1 1 a.1.length).length:Int)==0)))) <|
 chk ((!(((AA a.1 1 a.1.length).length:Int)==0))||(!(!(((AA a.1 1 a.1.length).length:Int)==0)))) <|
 chk ((!(((AA a.1 1 a.1.length).length:Int)==0))||(!(!(((AA a.1 1 a.1.length).length:Int)==0)))) <|
 chk ((!(((AA a.1 1 a.1.length).length:Int)==0))||(!(!(((AA a.1 1 a.1.length).length:Int)==0)))) <|
 chk ((!(((AA a.1 1 a.1.length).length:Int)==0))||(!(!(((AA a.1 1 a.1.length).length:Int)==0)))) <|
 let g:Bool:=((((AA a.1 1 a.1.length).getD 0 (0,[],[])).1) != (161:Int))
 chk (bif (((AA a.1 1 a.1.length).length:Int)==0)then true else !(((AA a.1 1 a.1.length).length:Int)==0)) <|
 chk (bif (((AA a.1 1 a.1.length).length:Int)==0)then true else true) <|
 let e:Bool:=bif (((AA a.1 1 a.1.length).length:Int)==0)then true else g
 bif e then(bif decide (((AA a.1 1 a.1.length).length:Int)>0)then(some ((([]:List Yq1),([]:List Yq1)),4))
 else(Ac (Du N (d.1,([]:List Yq1))) fun c =>
 bif (c != (0:Int))then(some ((([]:List Yq1),([]:List Yq1)),c))
 else(some ((d.1,([]:List Yq1)),0))))
 else(chk (decide (0<((AA a.1 1 a.1.length).length:Int))) <|
 Ac (BG N (((AA a.1 1 a.1.length).getD 0 (0,[],[])).2.1)) fun b =>
 bif (b.2 != (0:Int))then(some ((([]:List Yq1),([]:List Yq1)),b.2))
 else(chk (decide (1<=((AA a.1 1 a.1.length).length:Int))) <|
 let j:Int:=((AA (AA a.1 1 a.1.length) 1 ((AA a.1 1 a.1.length).length)).length:Int)
 bif decide (j>0)then(some ((([]:List Yq1),([]:List Yq1)),4))
 else(Ac (Du N (d.1,b.1)) fun c =>
 bif (c != (0:Int))then(some ((([]:List Yq1),([]:List Yq1)),c))
 else(some ((d.1,b.1),0))))))))))
abbrev Tz:Type:=Int×Yq4
def DI (N:Nat) (c:Bs) (a:Yq4):Option Tz :=
 Ac (Ed N c) fun b =>
 some (b.2,(a.1,a.2.1,a.2.2.1,a.2.2.2.1,a.2.2.2.2.1,a.2.2.2.2.2.1,a.2.2.2.2.2.2.1,a.2.2.2.2.2.2.2.1,a.2.2.2.2.2.2.2.2.1,a.2.2.2.2.2.2.2.2.2.1,a.2.2.2.2.2.2.2.2.2.2.1,true,b.1.1,b.1.2,a.2.2.2.2.2.2.2.2.2.2.2.2.2.2.1,a.2.2.2.2.2.2.2.2.2.2.2.2.2.2.2.1,a.2.2.2.2.2.2.2.2.2.2.2.2.2.2.2.2.1,a.2.2.2.2.2.2.2.2.2.2.2.2.2.2.2.2.2.1,a.2.2.2.2.2.2.2.2.2.2.2.2.2.2.2.2.2.2))
abbrev mX:Type:=Int
def IU (N:Nat) (a:Bs):Option mX :=
 bif (a==([]:Bs))then(some 7)
 else(some 0)
abbrev Yv:Type:=Int×Yq4
def DV (N:Nat) (d:Bs) (a:Yq4):Option Yv :=
 Ac (IY N d 4) fun b =>
 bif (b.2 != (0:Int))then(some (b.2,a))
 else(Ac (IU N b.1.2.1) fun c =>
 some (c,(a.1,a.2.1,a.2.2.1,a.2.2.2.1,a.2.2.2.2.1,a.2.2.2.2.2.1,a.2.2.2.2.2.2.1,a.2.2.2.2.2.2.2.1,a.2.2.2.2.2.2.2.2.1,a.2.2.2.2.2.2.2.2.2.1,a.2.2.2.2.2.2.2.2.2.2.1,a.2.2.2.2.2.2.2.2.2.2.2.1,a.2.2.2.2.2.2.2.2.2.2.2.2.1,a.2.2.2.2.2.2.2.2.2.2.2.2.2.1,b.1.2.1,a.2.2.2.2.2.2.2.2.2.2.2.2.2.2.2.1,a.2.2.2.2.2.2.2.2.2.2.2.2.2.2.2.2.1,a.2.2.2.2.2.2.2.2.2.2.2.2.2.2.2.2.2.1,a.2.2.2.2.2.2.2.2.2.2.2.2.2.2.2.2.2.2)))
abbrev VR:Type:=Int×Yq4
def DC (N:Nat) (f:Bs) (a:Yq4):Option VR :=
 Hw (Ju N f 48) (fun b =>
 bif (b.2 != (0:Int))then(some (b.2,a))
 else(Ac (Fe N b.1 128) fun c =>
 bif (c.2.1 != (0:Int))then(some (c.2.1,a))
 else(Ac (IU N c.1.2.1) fun d =>
 bif (d != (0:Int))then(some (d,(a.1,a.2.1,a.2.2.1,a.2.2.2.1,a.2.2.2.2.1,a.2.2.2.2.2.1,a.2.2.2.2.2.2.1,a.2.2.2.2.2.2.2.1,a.2.2.2.2.2.2.2.2.1,a.2.2.2.2.2.2.2.2.2.1,a.2.2.2.2.2.2.2.2.2.2.1,a.2.2.2.2.2.2.2.2.2.2.2.1,a.2.2.2.2.2.2.2.2.2.2.2.2.1,a.2.2.2.2.2.2.2.2.2.2.2.2.2.1,a.2.2.2.2.2.2.2.2.2.2.2.2.2.2.1,c.1.2.1,a.2.2.2.2.2.2.2.2.2.2.2.2.2.2.2.2.1,a.2.2.2.2.2.2.2.2.2.2.2.2.2.2.2.2.2.1,a.2.2.2.2.2.2.2.2.2.2.2.2.2.2.2.2.2.2)))
 else(Ac (BP N c.2.2) fun e =>
 some (e.1,(a.1,a.2.1,a.2.2.1,a.2.2.2.1,a.2.2.2.2.1,a.2.2.2.2.2.1,a.2.2.2.2.2.2.1,a.2.2.2.2.2.2.2.1,a.2.2.2.2.2.2.2.2.1,a.2.2.2.2.2.2.2.2.2.1,a.2.2.2.2.2.2.2.2.2.2.1,a.2.2.2.2.2.2.2.2.2.2.2.1,a.2.2.2.2.2.2.2.2.2.2.2.2.1,a.2.2.2.2.2.2.2.2.2.2.2.2.2.1,a.2.2.2.2.2.2.2.2.2.2.2.2.2.2.1,c.1.2.1,a.2.2.2.2.2.2.2.2.2.2.2.2.2.2.2.2.1,a.2.2.2.2.2.2.2.2.2.2.2.2.2.2.2.2.2.1,a.2.2.2.2.2.2.2.2.2.2.2.2.2.2.2.2.2.2))))))
 (fun b =>
 bif (b.2 != (0:Int))then(some (b.2,a))
 else(none))
abbrev ZI:Type:=Int×Yq4
def Fv (N:Nat) (c:Bs) (a:Yq4):Option ZI :=
 Ac (EX N c) fun b =>
 some (b.2,(a.1,a.2.1,a.2.2.1,a.2.2.2.1,a.2.2.2.2.1,a.2.2.2.2.2.1,a.2.2.2.2.2.2.1,a.2.2.2.2.2.2.2.1,a.2.2.2.2.2.2.2.2.1,a.2.2.2.2.2.2.2.2.2.1,a.2.2.2.2.2.2.2.2.2.2.1,a.2.2.2.2.2.2.2.2.2.2.2.1,a.2.2.2.2.2.2.2.2.2.2.2.2.1,a.2.2.2.2.2.2.2.2.2.2.2.2.2.1,a.2.2.2.2.2.2.2.2.2.2.2.2.2.2.1,a.2.2.2.2.2.2.2.2.2.2.2.2.2.2.2.1,b.1,a.2.2.2.2.2.2.2.2.2.2.2.2.2.2.2.2.2.1,a.2.2.2.2.2.2.2.2.2.2.2.2.2.2.2.2.2.2))
abbrev Xe:Type:=Int×Yq4
def Eo (N:Nat) (c:Bs) (a:Yq4):Option Xe :=
 Ac (EX N c) fun b =>
 some (b.2,(a.1,a.2.1,a.2.2.1,a.2.2.2.1,a.2.2.2.2.1,a.2.2.2.2.2.1,a.2.2.2.2.2.2.1,a.2.2.2.2.2.2.2.1,a.2.2.2.2.2.2.2.2.1,a.2.2.2.2.2.2.2.2.2.1,a.2.2.2.2.2.2.2.2.2.2.1,a.2.2.2.2.2.2.2.2.2.2.2.1,a.2.2.2.2.2.2.2.2.2.2.2.2.1,a.2.2.2.2.2.2.2.2.2.2.2.2.2.1,a.2.2.2.2.2.2.2.2.2.2.2.2.2.2.1,a.2.2.2.2.2.2.2.2.2.2.2.2.2.2.2.1,a.2.2.2.2.2.2.2.2.2.2.2.2.2.2.2.2.1,b.1,a.2.2.2.2.2.2.2.2.2.2.2.2.2.2.2.2.2.2))
def iO (N n:Nat) (a:Bs×Yq4):Option (Int×Yq4) :=
  bif Nat.beq n 113 then EE N a.1 a.2 else
  bif Nat.beq n 116 then EF N a.1 a.2 else
  bif Nat.beq n 119 then DN N a.1 a.2 else
  bif Nat.beq n 122 then DL N a.1 a.2 else
  bif Nat.beq n 125 then DK N a.1 a.2 else
  bif Nat.beq n 128 then Eh N a.1 a.2 else
  bif Nat.beq n 131 then DU N a.1 a.2 else
  bif Nat.beq n 134 then FN N a.1 a.2 else
  bif Nat.beq n 137 then DI N a.1 a.2 else
  bif Nat.beq n 140 then DV N a.1 a.2 else
  bif Nat.beq n 143 then DC N a.1 a.2 else
  bif Nat.beq n 146 then Fv N a.1 a.2 else
  bif Nat.beq n 149 then Eo N a.1 a.2 else
  none
abbrev yC:Type:=Int×Yq4
def Bv (N:Nat) (a:Yq4) (aD:Yq3) (aB:Bs×Bool×Bs):Option yC :=
 Ac (BF N aB.1) fun aE =>
 bif !aE then(some (11,a))
 else(Ap (X:=Int×Bool×Bool×Int×Int×Int×Int×Int×List Yq1×Bool×List Yq1×List Yq1×Bs×Bs×List Yq2×List Yq2×List Bs×List Bs×(List (Bs×Bs))×(List (Bs×Bool×Bs))×Bs×Bool×Bs) (Y:=(Bool×Bool×Int×Int×Int×Int×Int×List Yq1×Bool×List Yq1×List Yq1×Bs×Bs×List Yq2×List Yq2×List Bs×List Bs×(List (Bs×Bs))×(List (Bs×Bool×Bs))×Bs×Bool×Bs)) (U23 fun z aa ac ae ag ai ak am j l n p r t v x av ax az aq b g h aJ aK =>
 bif decide (z<(aD.length:Int))then(chk (decide (0<=z)) <|
 chk (decide (z<(aD.length:Int))) <|
 bif (((aD.getD z.toNat ([],false,[])).1)==b)then(some (10,(aa,ac,ae,ag,av,ax,az,ai,ak,am,j,l,n,p,r,t,v,x,aq)))
 else(aJ (i64.wrap (z+1),aa,ac,ae,ag,ai,ak,am,j,l,n,p,r,t,v,x,av,ax,az,aq,b,g,h)))
 else(aK (aa,ac,ae,ag,ai,ak,am,j,l,n,p,r,t,v,x,av,ax,az,aq,b,g,h)))
 N (0,a.1,a.2.1,a.2.2.1,a.2.2.2.1,a.2.2.2.2.2.2.2.1,a.2.2.2.2.2.2.2.2.1,a.2.2.2.2.2.2.2.2.2.1,a.2.2.2.2.2.2.2.2.2.2.1,a.2.2.2.2.2.2.2.2.2.2.2.1,a.2.2.2.2.2.2.2.2.2.2.2.2.1,a.2.2.2.2.2.2.2.2.2.2.2.2.2.1,a.2.2.2.2.2.2.2.2.2.2.2.2.2.2.1,a.2.2.2.2.2.2.2.2.2.2.2.2.2.2.2.1,a.2.2.2.2.2.2.2.2.2.2.2.2.2.2.2.2.1,a.2.2.2.2.2.2.2.2.2.2.2.2.2.2.2.2.2.1,a.2.2.2.2.1,a.2.2.2.2.2.1,a.2.2.2.2.2.2.1,a.2.2.2.2.2.2.2.2.2.2.2.2.2.2.2.2.2.2,aB.1,aB.2.1,aB.2.2) (U22 fun ab ad af ah aj al an k m o q s u w y aw ay aA ao f c d =>
 Ac (Bq N f) fun ar =>
 bif !ar.2 then(chk (decide ((ao.length+1)*41<=140737488355328)) <|
 Ac (Iz N d) fun aF =>
 some (aF,(ab,ad,af,ah,aw,ay,aA,aj,al,an,k,m,o,q,s,u,w,y,ao++([(f,c,d)]:List (Bs×Bool×Bs)))))
 else(Au ((ar.1.2.1==1)) fun ap =>
 chk (ap||!ap) <|
 chk (ap||!ap) <|
 chk (bif ap then ap else true) <|
 chk (bif ap then true else true) <|
 Au (bif ap then !c else false) fun aG =>
 Au (aG) fun e =>
 chk (!e||(!!e)) <|
 chk (!e||(!!e)) <|
 chk (!e||(!!e)) <|
 Au (ar.1.2.1==0) fun au =>
 chk ((!e&&au)||(!(!e&&au))) <|
 chk (!e||(!!e)) <|
 chk ((bif au then(!e&&au)else true)||(!!e)) <|
 chk ((bif au then true else true)||(!!e)) <|
 Au (bif au then c else false) fun aH =>
 chk (bif e then true else !e) <|
 chk (bif e then true else true) <|
 Au (bif e then true else aH) fun aI =>
 bif aI then(some (20,(ab,ad,af,ah,aw,ay,aA,aj,al,an,k,m,o,q,s,u,w,y,ao)))
 else(Ac (iO N ar.1.2.2.2.2 (d,(ab,ad,af,ah,aw,ay,aA,aj,al,an,k,m,o,q,s,u,w,y,ao))) fun aC =>
 some (aC.1,aC.2)))))
abbrev mQ:Type:=Yq4×Int
def GX (N:Nat) (aq:Yq3):Option mQ :=
 bif decide ((aq.length:Int)>24)then(some ((false,false,0,0,([]:List Bs),([]:List Bs),([]:List (Bs×Bs)),0,0,0,([]:List Yq1),false,([]:List Yq1),([]:List Yq1),([]:Bs),([]:Bs),([]:List Yq2),([]:List Yq2),([]:List (Bs×Bool×Bs))),2))
 else(Ac (KO N) fun b =>
 Ap (X:=Int×Bool×Bool×Int×Int×Int×Int×Int×List Yq1×Bool×List Yq1×List Yq1×Bs×Bs×List Yq2×List Yq2×(List (Bs×Bool×Bs))×(List (Bs×Bs))×List Bs×List Bs) (Y:=(Bool×Bool×Int×Int×Int×Int×Int×List Yq1×Bool×List Yq1×List Yq1×Bs×Bs×List Yq2×List Yq2×(List (Bs×Bool×Bs))×(List (Bs×Bs))×List Bs×List Bs)) (U20 fun c u w y aa ac ae ag d f h k m o q s ai aj ak al au av =>
 bif decide (c<(aq.length:Int))then(chk (decide (0<=c)) <|
 chk (decide (c<(aq.length:Int))) <|
 chk (decide (0<=c)) <|
 chk (decide (c<=(aq.length:Int))) <|
 Ac (Bv N (u,w,y,aa,al,ak,aj,ac,ae,ag,d,f,h,k,m,o,q,s,ai) (AA aq 0 c.toNat) (aq.getD c.toNat ([],false,[]))) fun a =>
 bif (a.1 != (0:Int))then(some ((false,false,0,0,([]:List Bs),([]:List Bs),([]:List (Bs×Bs)),0,0,0,([]:List Yq1),false,([]:List Yq1),([]:List Yq1),([]:Bs),([]:Bs),([]:List Yq2),([]:List Yq2),([]:List (Bs×Bool×Bs))),a.1))
 else(au (i64.wrap (c+1),a.2.1,a.2.2.1,a.2.2.2.1,a.2.2.2.2.1,a.2.2.2.2.2.2.2.2.1,a.2.2.2.2.2.2.2.2.2.1,a.2.2.2.2.2.2.2.2.2.2.1,a.2.2.2.2.2.2.2.2.2.2.2.1,a.2.2.2.2.2.2.2.2.2.2.2.2.1,a.2.2.2.2.2.2.2.2.2.2.2.2.2.1,a.2.2.2.2.2.2.2.2.2.2.2.2.2.2.1,a.2.2.2.2.2.2.2.2.2.2.2.2.2.2.2.1,a.2.2.2.2.2.2.2.2.2.2.2.2.2.2.2.2.1,a.2.2.2.2.2.2.2.2.2.2.2.2.2.2.2.2.2.1,a.2.2.2.2.2.2.2.2.2.2.2.2.2.2.2.2.2.2.1,a.2.2.2.2.2.2.2.2.2.2.2.2.2.2.2.2.2.2.2,a.2.2.2.2.2.2.2.1,a.2.2.2.2.2.2.1,a.2.2.2.2.2.1)))
 else(av (u,w,y,aa,ac,ae,ag,d,f,h,k,m,o,q,s,ai,aj,ak,al)))
 N (0,b.1,b.2.1,b.2.2.1,b.2.2.2.1,b.2.2.2.2.2.2.2.1,b.2.2.2.2.2.2.2.2.1,b.2.2.2.2.2.2.2.2.2.1,b.2.2.2.2.2.2.2.2.2.2.1,b.2.2.2.2.2.2.2.2.2.2.2.1,b.2.2.2.2.2.2.2.2.2.2.2.2.1,b.2.2.2.2.2.2.2.2.2.2.2.2.2.1,b.2.2.2.2.2.2.2.2.2.2.2.2.2.2.1,b.2.2.2.2.2.2.2.2.2.2.2.2.2.2.2.1,b.2.2.2.2.2.2.2.2.2.2.2.2.2.2.2.2.1,b.2.2.2.2.2.2.2.2.2.2.2.2.2.2.2.2.2.1,b.2.2.2.2.2.2.2.2.2.2.2.2.2.2.2.2.2.2,b.2.2.2.2.2.2.1,b.2.2.2.2.2.1,b.2.2.2.2.1) (U19 fun v x z ab ad af ah e g j l n p r t am an ao ap =>
 Ac (Ia N (v,x,z,ab,ap,ao,an,ad,af,ah,e,g,j,l,n,p,r,t,am)) fun ar =>
 bif (ar != (0:Int))then(some ((false,false,0,0,([]:List Bs),([]:List Bs),([]:List (Bs×Bs)),0,0,0,([]:List Yq1),false,([]:List Yq1),([]:List Yq1),([]:Bs),([]:Bs),([]:List Yq2),([]:List Yq2),([]:List (Bs×Bool×Bs))),ar))
 else(some ((v,x,z,ab,ap,ao,an,ad,af,ah,e,g,j,l,n,p,r,t,am),0))))
abbrev YN:Type:=Bool
def Gs (N:Nat) (q:List Int):Option YN :=
 Ac (pI N q) fun h =>
 Ac (QI N h) fun j =>
 Ac (FM N j.1) fun b =>
 Ac (GX N b.1) fun g =>
 Ac (FM N g.1) fun f =>
 Ac (Qo N) fun k =>
 Au (k) fun c =>
 chk (c||!c) <|
 chk (bif c then c else true) <|
 chk (bif c then true else true) <|
 Au (bif c then(b.2==0)else false) fun m =>
 Au (m) fun d =>
 chk (d||!d) <|
 chk (bif d then d else true) <|
 chk (bif d then true else true) <|
 Au (bif d then(g.2==0)else false) fun n =>
 Au (n) fun e =>
 chk (e||!e) <|
 chk (bif e then e else true) <|
 chk (bif e then true else true) <|
 Au (bif e then(f.2==0)else false) fun o =>
 Au (o) fun a =>
 chk (a||!a) <|
 chk (a||!a) <|
 chk (((Fq N b.1 f.1).isSome)||!a) <|
 let l:=(Fq N b.1 f.1).getD default
 chk (bif a then a else true) <|
 chk (bif a then true else true) <|
 Au (bif a then l else false) fun p =>
 some p
