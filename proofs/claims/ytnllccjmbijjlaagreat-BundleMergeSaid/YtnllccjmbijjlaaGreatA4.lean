/-
  The law BundleMerge returns true for every input. (part 4 of 6.)
-/
import Derived.Test.YtnllccjmbijjlaaGreatA3
set_option linter.unusedVariables false
set_option linter.unusedSimpArgs false
/-
  What the functions of the program compute.
-/
namespace Go.Proofs.YtnllccjmbijjlaaGreat.Vm
open Go.Proofs
abbrev Yq0 : Type := List Bs × List Bs × List (Bs × Bs)
abbrev Yq1 : Type := List (Int × Bs × Bs)
abbrev Yq2 : Type := List (Bs × Int × Bs)
abbrev Yq3 : Type := Int × Bs × List Yq2
abbrev Yq4 : Type := List Yq3 × Bool × Bool × Int × Bool
abbrev Yq5 : Type := List Yq3 × Int × Bool × List Yq2
abbrev Yq6 : Type := Int × Int × Int × Int × List Yq2
abbrev Yq7 : Type := Bs × Bs × List Yq2 × Int × Int × Int × Int × Bs × Bool × List Yq3 × Bool × Bool × Int × Bool × List Yq5 × List Yq6 × Bs
abbrev Yq8 : Type := Int × Int × Int × Int × Int × Int
abbrev Yq9 : Type := List (Bs × Bool × Bs)
abbrev Yq10 : Type := List Yq3 × List Yq3
abbrev Yq11 : Type := Bool × Bool × Int × Int × List Bs × List Bs × (List (Bs × Bs)) × Int × Int × Int × List Yq3 × Bool × List Yq3 × List Yq3 × Bs × Bs × List Yq5 × List Yq5 × List (Bs × Bool × Bs)
abbrev Yq12 : Type := Bs × Bs × Int × List Yq2 × List Yq2 × Int × Int × Int × Bs × Bs × Bool × Bool × Int × Int × List Bs × List Bs × (List (Bs × Bs)) × Int × Int × Int × List Yq3 × Bool × List Yq3 × List Yq3 × Bs × Bs × List Yq5 × List Yq5 × (List (Bs × Bool × Bs)) × Bs
abbrev Yq13 : Type := List ((Bs × Bs) × Bool)
-- certpath/certpathmade.Few
abbrev made_Few_O : Type := Bool
def made_Few (N : Nat) (p0 : List Bs) (p1 : Int) (p2 : Int) : Option made_Few_O :=
 bif decide ((p0.length : Int) > p1) then (some false)
 else (iterG (X := Int) (Y := Unit) (fun t15a k1 x2 =>
 bif decide (t15a < (p0.length : Int)) then (chk (decide ((0 : Int) ≤ t15a)) <|
 chk (decide (t15a < (p0.length : Int))) <|
 bif decide (((p0.getD t15a.toNat ([] : Bs)).length : Int) > p2) then (some false)
 else (k1 (IntKind.i64.wrap (t15a + (1 : Int)))))
 else (x2 ()))
 N 0 (fun _ =>
 some true))

-- certpath/certpathlaw20.short
abbrev law20_short_O : Type := Bool
def law20_short (N : Nat) (p0 : Yq0) : Option law20_short_O :=
 bif decide ((p0.2.2.length : Int) > (10 : Int)) then (some false)
 else (iterG (X := Int × List Bs × List Bs × List (Bs × Bs)) (Y := (List Bs × List Bs × List (Bs × Bs))) (U4 fun t12a b33024_0a b33024_1a b33024_2a k1 x2 =>
 bif decide (t12a < (p0.2.2.length : Int)) then (chk (decide ((0 : Int) ≤ t12a)) <|
 chk (decide (t12a < (p0.2.2.length : Int))) <|
 let x19 : Bool := decide ((((p0.2.2.getD t12a.toNat (([] : Bs), ([] : Bs))).1).length : Int) > (200 : Int))
 chk (((!x19) || (!(!x19)))) <|
 chk (((!x19) || (!(!x19)))) <|
 chk (((!x19) || (!(!x19)))) <|
 let x24 : Bool := decide ((((p0.2.2.getD t12a.toNat (([] : Bs), ([] : Bs))).2).length : Int) > (200 : Int))
 chk (bif x19 then true else !x19) <|
 chk (bif x19 then true else true) <|
 bif bif x19 then true else x24 then (some false)
 else (k1 (IntKind.i64.wrap (t12a + (1 : Int)), b33024_0a, b33024_1a, b33024_2a)))
 else (x2 (b33024_0a, b33024_1a, b33024_2a)))
 N (0, p0.1, p0.2.1, p0.2.2) (U3 fun b33024_0b b33024_1b b33024_2b =>
 callO (made_Few N b33024_0b 10 200) fun r29 =>
 chk ((r29 || (!r29))) <|
 chk ((r29 || (!r29))) <|
 chk ((((made_Few N b33024_1b 10 200).isSome) || (!r29))) <|
 let r33 := (made_Few N b33024_1b 10 200).getD default
 chk (bif r29 then r29 else true) <|
 chk (bif r29 then true else true) <|
 some (bif r29 then r33 else false)))

-- certpath/tlv.least
abbrev tlv_least_O : Type := Int
def tlv_least (N : Nat) (p0 : Int) : Option tlv_least_O :=
 bif (p0 == (1 : Int)) then (some 128)
 else (let x8 : Int := IntKind.u64.wrap ((8 : Int) * (IntKind.u64.wrap (IntKind.i64.wrap (p0 - (1 : Int)))))
 chk (decide ((0 : Int) ≤ x8)) <|
 some (IntKind.i64.wrap ((1 : Int) * (2 ^ (min x8.toNat 64)))))

-- certpath/tlv.Read
abbrev tlv_Read_O : Type := (Int × Bs × Bs) × Bs × Int
def tlv_Read (N : Nat) (p0 : Bs) : Option tlv_Read_O :=
 bif (p0 == ([] : Bs)) then (some ((0, ([] : Bs), ([] : Bs)), ([] : Bs), 3))
 else (chk (decide ((0 : Int) < (p0.length : Int))) <|
 let x20 : Bool := ((bitsI .and .i64 (IntKind.i64.wrap ((p0.getD 0 0).toNat : Int)) 31) == (31 : Int))
 bif x20 then (some ((0, ([] : Bs), ([] : Bs)), ([] : Bs), 5))
 else (bif decide ((p0.length : Int) < (2 : Int)) then (some ((0, ([] : Bs), ([] : Bs)), ([] : Bs), 3))
 else (chk (decide ((1 : Int) < (p0.length : Int))) <|
 chk (((!((IntKind.i64.wrap ((p0.getD 1 0).toNat : Int)) == (128 : Int))) || (!(!((IntKind.i64.wrap ((p0.getD 1 0).toNat : Int)) == (128 : Int)))))) <|
 chk (bif ((IntKind.i64.wrap ((p0.getD 1 0).toNat : Int)) == (128 : Int)) then true else !((IntKind.i64.wrap ((p0.getD 1 0).toNat : Int)) == (128 : Int))) <|
 chk (bif ((IntKind.i64.wrap ((p0.getD 1 0).toNat : Int)) == (128 : Int)) then true else true) <|
 let x34 : Bool := bif ((IntKind.i64.wrap ((p0.getD 1 0).toNat : Int)) == (128 : Int)) then true else decide ((IntKind.i64.wrap ((p0.getD 1 0).toNat : Int)) > (131 : Int))
 bif x34 then (some ((0, ([] : Bs), ([] : Bs)), ([] : Bs), 6))
 else (letJ (α := Int × Int) (fun j1 =>
 bif decide ((IntKind.i64.wrap ((p0.getD 1 0).toNat : Int)) > (128 : Int)) then (let x39 : Int := IntKind.i64.wrap ((IntKind.i64.wrap ((p0.getD 1 0).toNat : Int)) - (128 : Int))
 bif decide ((p0.length : Int) < (IntKind.i64.wrap ((2 : Int) + x39))) then (some ((0, ([] : Bs), ([] : Bs)), ([] : Bs), 3))
 else (chk (decide ((2 : Int) ≤ IntKind.i64.wrap ((2 : Int) + x39))) <|
 chk (decide (IntKind.i64.wrap ((2 : Int) + x39) ≤ (p0.length : Int))) <|
 chk (decide ((cutL p0 2 ((IntKind.i64.wrap ((2 : Int) + x39)).toNat)).length ≤ 140737488355328)) <|
 let y45568 : List Int := List.map (fun (b : UInt8) => ((b.toNat : Int))) (cutL p0 2 ((IntKind.i64.wrap ((2 : Int) + x39)).toNat))
 iterG (X := Int × Int × List Int) (Y := Int) (U3 fun t7b t52b l45568b k2 x3 =>
 bif decide (t52b < (y45568.length : Int)) then (chk (decide ((0 : Int) ≤ t52b)) <|
 chk (decide (t52b < (l45568b.length : Int))) <|
 chk (decide (t52b.toNat < l45568b.length)) <|
 let x60 : Int := bitsI .or .i64 (IntKind.i64.wrap (t7b * (256))) (IntKind.i64.wrap (l45568b.getD t52b.toNat 0))
 k2 (x60, IntKind.i64.wrap (t52b + (1 : Int)), l45568b))
 else (x3 t7b))
 N (0, 0, y45568) (fun t7c =>
 callO (tlv_least N x39) fun r67 =>
 chk (((!(decide (t7c < r67))) || (!(!(decide (t7c < r67)))))) <|
 chk (bif decide (t7c < r67) then true else !(decide (t7c < r67))) <|
 chk (bif decide (t7c < r67) then true else true) <|
 bif bif decide (t7c < r67) then true else decide (t7c > (131072 : Int)) then (some ((0, ([] : Bs), ([] : Bs)), ([] : Bs), 6))
 else (j1 (t7c, IntKind.i64.wrap ((2 : Int) + x39))))))
 else (j1 (IntKind.i64.wrap ((p0.getD 1 0).toNat : Int), 2)))
 (U2 fun t7a t8a =>
 bif decide ((IntKind.i64.wrap ((p0.length : Int) - t8a)) < t7a) then (some ((0, ([] : Bs), ([] : Bs)), ([] : Bs), 3))
 else (chk (decide ((0 : Int) ≤ t8a)) <|
 chk (decide (t8a ≤ IntKind.i64.wrap (t8a + t7a))) <|
 chk (decide (IntKind.i64.wrap (t8a + t7a) ≤ (p0.length : Int))) <|
 chk (decide ((0 : Int) ≤ IntKind.i64.wrap (t8a + t7a))) <|
 chk (decide (IntKind.i64.wrap (t8a + t7a) ≤ (p0.length : Int))) <|
 chk (decide ((0 : Int) ≤ IntKind.i64.wrap (t8a + t7a))) <|
 chk (decide (IntKind.i64.wrap (t8a + t7a) ≤ (p0.length : Int))) <|
 some ((IntKind.i64.wrap ((p0.getD 0 0).toNat : Int), cutL p0 t8a.toNat ((IntKind.i64.wrap (t8a + t7a)).toNat), cutL p0 0 ((IntKind.i64.wrap (t8a + t7a)).toNat)), cutL p0 ((IntKind.i64.wrap (t8a + t7a)).toNat) p0.length, 0)))))))

-- certpath/tlv.One
abbrev tlv_One_O : Type := (Int × Bs × Bs) × Int
def tlv_One (N : Nat) (p0 : Bs) : Option tlv_One_O :=
 callO (tlv_Read N p0) fun r9 =>
 bif (r9.2.2 != (0 : Int)) then (some ((0, ([] : Bs), ([] : Bs)), r9.2.2))
 else (bif !(r9.2.1 == ([] : Bs)) then (some ((0, ([] : Bs), ([] : Bs)), 4))
 else (some (r9.1, 0)))

-- certpath/tlv.within
abbrev tlv_within_O : Type := Int
def tlv_within_body (N : Nat) (F : (Int × Bs × Bs) → Int → Option tlv_within_O) (p0 : Int × Bs × Bs) (p1 : Int) : Option tlv_within_O :=
 bif ((bitsI .and .i64 p0.1 32) == (0 : Int)) then (some 0)
 else (iterG (X := Bs) (Y := Unit) (fun t5a k1 x2 =>
 bif !(t5a == ([] : Bs)) then (callO (tlv_Read N t5a) fun r20 =>
 bif (r20.2.2 != (0 : Int)) then (some r20.2.2)
 else (bif decide (p1 ≥ (16 : Int)) then (some 8)
 else (callO (F r20.1 (IntKind.i64.wrap (p1 + (1 : Int)))) fun r32 =>
 bif (r32 != (0 : Int)) then (some r32)
 else (k1 r20.2.1))))
 else (x2 ()))
 N p0.2.1 (fun _ =>
 some 0))
def tlv_within (N : Nat) : Nat → (Int × Bs × Bs) → Int → Option tlv_within_O
  | 0 => fun p0 p1 => none
  | n + 1 => fun p0 p1 => tlv_within_body N (tlv_within N n) p0 p1

-- certpath/tlv.Check
abbrev tlv_Check_O : Type := Int
def tlv_Check (N : Nat) (p0 : Bs) : Option tlv_Check_O :=
 callO (tlv_One N p0) fun r7 =>
 bif (r7.2 != (0 : Int)) then (some r7.2)
 else (callO (tlv_within N N r7.1 1) fun r14 =>
 some r14)

-- certpath/bundle.checkOne
abbrev bundle_checkOne_O : Type := Int
def bundle_checkOne (N : Nat) (p0 : Bs) : Option bundle_checkOne_O :=
 callO (tlv_Check N p0) fun r5 =>
 bif (r5 != (0 : Int)) then (some r5)
 else (chk (decide ((0 : Int) < (p0.length : Int))) <|
 bif (((p0.getD 0 0).toNat : Int) != (48 : Int)) then (some 5)
 else (some 0))

-- certpath/bundle.checkPair
abbrev bundle_checkPair_O : Type := Int
def bundle_checkPair (N : Nat) (p0 : Bs × Bs) : Option bundle_checkPair_O :=
 chk (((p0.1 == ([] : Bs)) || (!(p0.1 == ([] : Bs))))) <|
 chk (((p0.1 == ([] : Bs)) || (!(p0.1 == ([] : Bs))))) <|
 chk (bif (p0.1 == ([] : Bs)) then (p0.1 == ([] : Bs)) else true) <|
 chk (bif (p0.1 == ([] : Bs)) then true else true) <|
 bif bif (p0.1 == ([] : Bs)) then (p0.2 == ([] : Bs)) else false then (some 7)
 else (iterG (X := Int × List Bs) (Y := Unit) (U2 fun t20a l37376a k1 x2 =>
 bif decide (t20a < (2 : Int)) then (chk (decide ((0 : Int) ≤ t20a)) <|
 chk (decide (t20a < (l37376a.length : Int))) <|
 chk (decide (t20a.toNat < l37376a.length)) <|
 bif ((l37376a.getD t20a.toNat ([] : Bs)) == ([] : Bs)) then (k1 (IntKind.i64.wrap (t20a + (1 : Int)), l37376a))
 else (callO (bundle_checkOne N (l37376a.getD t20a.toNat ([] : Bs))) fun r27 =>
 bif (r27 != (0 : Int)) then (some r27)
 else (k1 (IntKind.i64.wrap (t20a + (1 : Int)), l37376a))))
 else (x2 ()))
 N (0, ([p0.1, p0.2] : List Bs)) (fun _ =>
 some 0))

-- certpath/bundle.Check
abbrev bundle_Check_O : Type := Int
def bundle_Check (N : Nat) (p0 : Yq0) : Option bundle_Check_O :=
 chk (((!(decide ((p0.1.length : Int) > (64 : Int)))) || (!(!(decide ((p0.1.length : Int) > (64 : Int))))))) <|
 chk (((!(decide ((p0.1.length : Int) > (64 : Int)))) || (!(!(decide ((p0.1.length : Int) > (64 : Int))))))) <|
 chk (((!(decide ((p0.1.length : Int) > (64 : Int)))) || (!(!(decide ((p0.1.length : Int) > (64 : Int))))))) <|
 chk (bif decide ((p0.1.length : Int) > (64 : Int)) then true else !(decide ((p0.1.length : Int) > (64 : Int)))) <|
 chk (bif decide ((p0.1.length : Int) > (64 : Int)) then true else true) <|
 let x20 : Bool := bif decide ((p0.1.length : Int) > (64 : Int)) then true else decide ((p0.2.1.length : Int) > (64 : Int))
 chk (((!x20) || (!(!x20)))) <|
 chk (((!x20) || (!(!x20)))) <|
 chk (((!x20) || (!(!x20)))) <|
 chk (bif x20 then true else !x20) <|
 chk (bif x20 then true else true) <|
 bif bif x20 then true else decide ((p0.2.2.length : Int) > (64 : Int)) then (some 2)
 else (iterG (X := Int × List Bs × List Bs × (List (Bs × Bs)) × List (List Bs)) (Y := (List Bs × List Bs × List (Bs × Bs))) (U5 fun t33a b33024_0a b33024_1a b33024_2a l40704a k1 x2 =>
 bif decide (t33a < (2 : Int)) then (chk (decide ((0 : Int) ≤ t33a)) <|
 chk (decide (t33a < (l40704a.length : Int))) <|
 chk (decide (t33a.toNat < l40704a.length)) <|
 iterG (X := Int × List Bs × List Bs × (List (Bs × Bs)) × List (List Bs)) (Y := (List Bs × List Bs × (List (Bs × Bs)) × List (List Bs))) (U5 fun t39b b33024_0b b33024_1b b33024_2b l40704b k3 x4 =>
 let x40 : Bool := decide (t39b < ((l40704a.getD t33a.toNat ([] : List Bs)).length : Int))
 bif x40 then (chk (decide ((0 : Int) ≤ t39b)) <|
 chk (decide (t39b < ((l40704a.getD t33a.toNat ([] : List Bs)).length : Int))) <|
 callO (bundle_checkOne N ((l40704a.getD t33a.toNat ([] : List Bs)).getD t39b.toNat ([] : Bs))) fun r44 =>
 bif (r44 != (0 : Int)) then (some r44)
 else (k3 (IntKind.i64.wrap (t39b + (1 : Int)), b33024_0b, b33024_1b, b33024_2b, l40704b)))
 else (x4 (b33024_0b, b33024_1b, b33024_2b, l40704b)))
 N (0, b33024_0a, b33024_1a, b33024_2a, l40704a) (U4 fun b33024_0c b33024_1c b33024_2c l40704c =>
 k1 (IntKind.i64.wrap (t33a + (1 : Int)), b33024_0c, b33024_1c, b33024_2c, l40704c)))
 else (x2 (b33024_0a, b33024_1a, b33024_2a)))
 N (0, p0.1, p0.2.1, p0.2.2, ([p0.1, p0.2.1] : List (List Bs))) (U3 fun b33024_0d b33024_1d b33024_2d =>
 iterG (X := Int) (Y := Unit) (fun t53e k5 x6 =>
 bif decide (t53e < (b33024_2d.length : Int)) then (chk (decide ((0 : Int) ≤ t53e)) <|
 chk (decide (t53e < (b33024_2d.length : Int))) <|
 callO (bundle_checkPair N (b33024_2d.getD t53e.toNat (([] : Bs), ([] : Bs)))) fun r58 =>
 bif (r58 != (0 : Int)) then (some r58)
 else (k5 (IntKind.i64.wrap (t53e + (1 : Int)))))
 else (x6 ()))
 N 0 (fun _ =>
 some 0)))

-- (*certpath/der.Writer).Take
abbrev der_Writer_Take_O : Type := Bs × Bool
def der_Writer_Take (N : Nat) (p0 : Bool) (p1 : Bs) (p2 : Int) : Option der_Writer_Take_O :=
 chk (((!p0) || (!(!p0)))) <|
 chk (bif p0 then true else !p0) <|
 chk (bif p0 then true else true) <|
 some (p1, bif p0 then true else (p2 != (0 : Int)))

-- certpath/tlv.Wrap
abbrev tlv_Wrap_O : Type := Bs × Int
def tlv_Wrap (N : Nat) (p0 : Int) (p1 : List Bs) : Option tlv_Wrap_O :=
 chk (((!(decide (p0 < (0 : Int)))) || (!(!(decide (p0 < (0 : Int))))))) <|
 chk (bif decide (p0 < (0 : Int)) then true else !(decide (p0 < (0 : Int)))) <|
 chk (bif decide (p0 < (0 : Int)) then true else true) <|
 chk (((!(bif decide (p0 < (0 : Int)) then true else decide (p0 > (255 : Int)))) || (!(!(bif decide (p0 < (0 : Int)) then true else decide (p0 > (255 : Int))))))) <|
 chk (((!(bif decide (p0 < (0 : Int)) then true else decide (p0 > (255 : Int)))) || (!(!(bif decide (p0 < (0 : Int)) then true else decide (p0 > (255 : Int))))))) <|
 chk (bif bif decide (p0 < (0 : Int)) then true else decide (p0 > (255 : Int)) then true else !(bif decide (p0 < (0 : Int)) then true else decide (p0 > (255 : Int)))) <|
 chk (bif bif decide (p0 < (0 : Int)) then true else decide (p0 > (255 : Int)) then true else true) <|
 let x20 : Bool := bif bif decide (p0 < (0 : Int)) then true else decide (p0 > (255 : Int)) then true else ((bitsI .and .i64 p0 31) == (31 : Int))
 bif x20 then (some (([] : Bs), 5))
 else (iterG (X := Int × Int) (Y := Int) (U2 fun t6a t23a k1 x2 =>
 bif decide (t23a < (p1.length : Int)) then (chk (decide ((0 : Int) ≤ t23a)) <|
 chk (decide (t23a < (p1.length : Int))) <|
 let x31 : Bool := decide (((p1.getD t23a.toNat ([] : Bs)).length : Int) > (IntKind.i64.wrap ((131072 : Int) - t6a)))
 bif x31 then (some (([] : Bs), 6))
 else (k1 (IntKind.i64.wrap (t6a + ((p1.getD t23a.toNat ([] : Bs)).length : Int)), IntKind.i64.wrap (t23a + (1 : Int)))))
 else (x2 t6a))
 N (0, 0) (fun t6b =>
 letJ (α := List Int) (fun j3 =>
 bif decide (t6b < (128 : Int)) then (j3 ([IntKind.u8.wrap p0, IntKind.u8.wrap t6b] : List Int))
 else (bif decide (t6b < (256 : Int)) then (j3 ([IntKind.u8.wrap p0, 129, IntKind.u8.wrap t6b] : List Int))
 else (bif decide (t6b < (65536 : Int)) then (j3 ([IntKind.u8.wrap p0, 130, IntKind.u8.wrap (t6b.fdiv (256)), IntKind.u8.wrap t6b] : List Int))
 else (j3 ([IntKind.u8.wrap p0, 131, IntKind.u8.wrap (t6b.fdiv (65536)), IntKind.u8.wrap (t6b.fdiv (256)), IntKind.u8.wrap t6b] : List Int)))))
 (fun l1008192c =>
 chk (List.all l1008192c isByte) <|
 callO (strings_Join N p1 ([] : Bs)) fun r81 =>
 chk (decide ((List.map byteOf l1008192c).length + r81.length ≤ 140737488355328)) <|
 some ((List.map byteOf l1008192c) ++ r81, 0))))

-- (*certpath/der.Writer).Wrap
abbrev der_Writer_Wrap_O : Type := Bs × Bool
def der_Writer_Wrap (N : Nat) (p0 : Bool) (p1 : Int) (p2 : List Bs) : Option der_Writer_Wrap_O :=
 callO (tlv_Wrap N p1 p2) fun r10 =>
 callO (der_Writer_Take N p0 r10.1 r10.2) fun r13 =>
 some (r13.1, r13.2)

-- (*certpath/der.Writer).Seq
abbrev der_Writer_Seq_O : Type := Bs × Bool
def der_Writer_Seq (N : Nat) (p0 : Bool) (p1 : List Bs) : Option der_Writer_Seq_O :=
 callO (der_Writer_Wrap N p0 48 p1) fun r7 =>
 some (r7.1, r7.2)

-- certpath/bundle.part
abbrev bundle_part_O : Type := Bs × Bool
def bundle_part (N : Nat) (p0 : Bool) (p1 : Int) (p2 : List Bs) : Option bundle_part_O :=
 iterG (X := Int × Bool) (Y := Bool) (U2 fun t11a b0_0a k1 x2 =>
 bif decide (t11a < (p2.length : Int)) then (chk (decide ((0 : Int) ≤ t11a)) <|
 chk (decide (t11a < (p2.length : Int))) <|
 bif !((p2.getD t11a.toNat ([] : Bs)) == ([] : Bs)) then (callO (der_Writer_Wrap N b0_0a p1 p2) fun r20 =>
 some (r20.1, r20.2))
 else (k1 (IntKind.i64.wrap (t11a + (1 : Int)), b0_0a)))
 else (x2 b0_0a))
 N (0, p0) (fun b0_0b =>
 some (([] : Bs), b0_0b))

-- (*certpath/der.Writer).Bad
abbrev der_Writer_Bad_O : Type := Bool × Bool
def der_Writer_Bad (N : Nat) (p0 : Bool) : Option der_Writer_Bad_O :=
 some (p0, p0)

-- certpath/bundle.Encode
abbrev bundle_Encode_O : Type := Bs × Int
def bundle_Encode (N : Nat) (p0 : Yq0) : Option bundle_Encode_O :=
 callO (bundle_Check N p0) fun r11 =>
 bif (r11 != (0 : Int)) then (some (([] : Bs), r11))
 else (iterG (X := Int × List Bs × List Bs × (List (Bs × Bs)) × Bool × List Bs) (Y := (List Bs × List Bs × (List (Bs × Bs)) × Bool × List Bs)) (U6 fun t20a b33024_0a b33024_1a b33024_2a b36864_0a l1000000a k1 x2 =>
 bif decide (t20a < (p0.2.2.length : Int)) then (chk (decide ((0 : Int) ≤ t20a)) <|
 chk (decide (t20a < (p0.2.2.length : Int))) <|
 callO (bundle_part N b36864_0a 160 ([(p0.2.2.getD t20a.toNat (([] : Bs), ([] : Bs))).1] : List Bs)) fun r30 =>
 callO (bundle_part N r30.2 161 ([(p0.2.2.getD t20a.toNat (([] : Bs), ([] : Bs))).2] : List Bs)) fun r35 =>
 callO (der_Writer_Seq N r35.2 ([r30.1, r35.1] : List Bs)) fun r37 =>
 chk (decide ((l1000000a.length + 1) * 17 ≤ 140737488355328)) <|
 k1 (IntKind.i64.wrap (t20a + (1 : Int)), b33024_0a, b33024_1a, b33024_2a, r37.2, l1000000a ++ ([r37.1] : List Bs)))
 else (x2 (b33024_0a, b33024_1a, b33024_2a, b36864_0a, l1000000a)))
 N (0, p0.1, p0.2.1, p0.2.2, false, ([] : List Bs)) (U5 fun b33024_0b b33024_1b b33024_2b b36864_0b l1004096b =>
 callO (bundle_part N b36864_0b 160 b33024_0b) fun r45 =>
 callO (bundle_part N r45.2 161 b33024_1b) fun r49 =>
 callO (bundle_part N r49.2 162 l1004096b) fun r52 =>
 callO (der_Writer_Seq N r52.2 ([r45.1, r49.1, r52.1] : List Bs)) fun r54 =>
 callO (der_Writer_Bad N r54.2) fun r56 =>
 bif r56.1 then (some (([] : Bs), 2))
 else (some (r54.1, 0))))

-- certpath/der.One
abbrev der_One_O : Type := (Int × Bs × Bs) × Int
def der_One (N : Nat) (p0 : Bs) (p1 : Int) : Option der_One_O :=
 callO (tlv_One N p0) fun r10 =>
 bif (r10.2 != (0 : Int)) then (some ((0, ([] : Bs), ([] : Bs)), r10.2))
 else (bif (r10.1.1 != p1) then (some ((0, ([] : Bs), ([] : Bs)), 5))
 else (some (r10.1, 0)))

-- certpath/tlv.List
abbrev tlv_List_O : Type := Yq1 × Int
def tlv_List (N : Nat) (p0 : Bs) : Option tlv_List_O :=
 iterG (X := Bs × List (Int × Bs × Bs)) (Y := (List (Int × Bs × Bs))) (U2 fun t0a l1000000a k1 x2 =>
 bif !(t0a == ([] : Bs)) then (callO (tlv_Read N t0a) fun r12 =>
 bif (r12.2.2 != (0 : Int)) then (some (([] : List (Int × Bs × Bs)), r12.2.2))
 else (chk (decide ((l1000000a.length + 1) * 41 ≤ 140737488355328)) <|
 k1 (r12.2.1, l1000000a ++ ([r12.1] : List (Int × Bs × Bs)))))
 else (x2 l1000000a))
 N (p0, ([] : List (Int × Bs × Bs))) (fun l1004096b =>
 some (l1004096b, 0))

-- certpath/der.Contents
abbrev der_Contents_O : Type := (Yq1 × Int) ⊕ (Unit × Int)
def der_Contents (N : Nat) (p0 : Bs) : Option der_Contents_O :=
 callO (tlv_List N p0) fun r8 =>
 bif (r8.2 != (0 : Int)) then (some (.inr ((), r8.2)))
 else (some (.inl (r8.1, 0)))

-- certpath/der.Open
abbrev der_Open_O : Type := (Yq1 × Int) ⊕ (Unit × Int)
def der_Open (N : Nat) (p0 : Bs) (p1 : Int) : Option der_Open_O :=
 callO (der_One N p0 p1) fun r11 =>
 bif (r11.2 != (0 : Int)) then (some (.inr ((), r11.2)))
 else (callE (der_Contents N r11.1.2.1) (fun r19 =>
 some (.inl (r19.1, r19.2)))
 (fun r19 =>
 some (.inr ((), r19.2))))

-- (*certpath/der.Reader).Has
abbrev der_Reader_Has_O : Type := (Int × Bs × Bs) × Bool × Yq1
def der_Reader_Has (N : Nat) (p0 : Yq1) (p1 : Int) : Option der_Reader_Has_O :=
 chk (((!((p0.length : Int) == (0 : Int))) || (!(!((p0.length : Int) == (0 : Int)))))) <|
 chk (((!((p0.length : Int) == (0 : Int))) || (!(!((p0.length : Int) == (0 : Int)))))) <|
 chk (((!((p0.length : Int) == (0 : Int))) || (!(!((p0.length : Int) == (0 : Int)))))) <|
 chk (((!((p0.length : Int) == (0 : Int))) || (!(!((p0.length : Int) == (0 : Int)))))) <|
 chk (((decide ((0 : Int) < (p0.length : Int))) || (!(!((p0.length : Int) == (0 : Int)))))) <|
 chk (((!((p0.length : Int) == (0 : Int))) || (!(!((p0.length : Int) == (0 : Int)))))) <|
 chk (((!((p0.length : Int) == (0 : Int))) || (!(!((p0.length : Int) == (0 : Int)))))) <|
 chk (((!((p0.length : Int) == (0 : Int))) || (!(!((p0.length : Int) == (0 : Int)))))) <|
 chk (((!((p0.length : Int) == (0 : Int))) || (!(!((p0.length : Int) == (0 : Int)))))) <|
 chk (bif ((p0.length : Int) == (0 : Int)) then true else !((p0.length : Int) == (0 : Int))) <|
 chk (bif ((p0.length : Int) == (0 : Int)) then true else true) <|
 let x23 : Bool := bif ((p0.length : Int) == (0 : Int)) then true else (((p0.getD 0 (0, ([] : Bs), ([] : Bs))).1) != p1)
 bif x23 then (some ((0, ([] : Bs), ([] : Bs)), false, p0))
 else (chk (decide ((0 : Int) < (p0.length : Int))) <|
 chk (decide ((1 : Int) ≤ (p0.length : Int))) <|
 some ((p0.getD 0 (0, ([] : Bs), ([] : Bs))), true, cutL p0 1 p0.length))

-- certpath/bundle.decodePart
abbrev bundle_decodePart_O : Type := List Bs × Int × Yq1
def bundle_decodePart (N : Nat) (p0 : Yq1) (p1 : Int) : Option bundle_decodePart_O :=
 callO (der_Reader_Has N p0 p1) fun r16 =>
 bif !r16.2.1 then (some (([] : List Bs), 0, r16.2.2))
 else (callO (tlv_List N r16.1.2.1) fun r24 =>
 bif (r24.2 != (0 : Int)) then (some (([] : List Bs), r24.2, r16.2.2))
 else (bif ((r24.1.length : Int) == (0 : Int)) then (some (([] : List Bs), 7, r16.2.2))
 else (iterG (X := Int × (List (Int × Bs × Bs)) × List Bs) (Y := ((List (Int × Bs × Bs)) × List Bs)) (U3 fun t35a b0_0a l1000000a k1 x2 =>
 bif decide (t35a < (r24.1.length : Int)) then (chk (decide ((0 : Int) ≤ t35a)) <|
 chk (decide (t35a < (r24.1.length : Int))) <|
 chk (decide ((l1000000a.length + 1) * 17 ≤ 140737488355328)) <|
 let y43776 : List Bs := l1000000a ++ ([(r24.1.getD t35a.toNat (0, ([] : Bs), ([] : Bs))).2.2] : List Bs)
 k1 (IntKind.i64.wrap (t35a + (1 : Int)), b0_0a, y43776))
 else (x2 (b0_0a, l1000000a)))
 N (0, r16.2.2, ([] : List Bs)) (U2 fun b0_0b l1004096b =>
 some (l1004096b, 0, b0_0b)))))

-- (*certpath/der.Reader).Done
abbrev der_Reader_Done_O : Type := Int × Yq1
def der_Reader_Done (N : Nat) (p0 : Yq1) : Option der_Reader_Done_O :=
 bif decide ((p0.length : Int) > (0 : Int)) then (some (4, p0))
 else (some (0, p0))

-- certpath/bundle.decodeHalf
abbrev bundle_decodeHalf_O : Type := Bs × Int × Yq1
def bundle_decodeHalf (N : Nat) (p0 : Yq1) (p1 : Int) : Option bundle_decodeHalf_O :=
 callO (der_Reader_Has N p0 p1) fun r13 =>
 bif !r13.2.1 then (some (([] : Bs), 0, r13.2.2))
 else (callO (tlv_One N r13.1.2.1) fun r21 =>
 some (r21.1.2.2, r21.2, r13.2.2))

-- certpath/bundle.decodePair
abbrev bundle_decodePair_O : Type := (Bs × Bs) × Int
def bundle_decodePair (N : Nat) (p0 : Bs) : Option bundle_decodePair_O :=
 callE (der_Open N p0 48) (fun r9 =>
 bif (r9.2 != (0 : Int)) then (some ((([] : Bs), ([] : Bs)), r9.2))
 else (callO (bundle_decodeHalf N r9.1 160) fun r18 =>
 bif (r18.2.1 != (0 : Int)) then (some ((([] : Bs), ([] : Bs)), r18.2.1))
 else (callO (bundle_decodeHalf N r18.2.2 161) fun r28 =>
 bif (r28.2.1 != (0 : Int)) then (some ((([] : Bs), ([] : Bs)), r28.2.1))
 else (callO (der_Reader_Done N r28.2.2) fun r38 =>
 some ((r18.1, r28.1), r38.1)))))
 (fun r9 =>
 bif (r9.2 != (0 : Int)) then (some ((([] : Bs), ([] : Bs)), r9.2))
 else (none))

-- certpath/bundle.Decode
abbrev bundle_Decode_O : Type := Yq0 × Int
def bundle_Decode (N : Nat) (p0 : Bs) : Option bundle_Decode_O :=
 callE (der_Open N p0 48) (fun r17 =>
 bif (r17.2 != (0 : Int)) then (some ((([] : List Bs), ([] : List Bs), ([] : List (Bs × Bs))), r17.2))
 else (callO (bundle_decodePart N r17.1 160) fun r26 =>
 bif (r26.2.1 != (0 : Int)) then (some ((([] : List Bs), ([] : List Bs), ([] : List (Bs × Bs))), r26.2.1))
 else (callO (bundle_decodePart N r26.2.2 161) fun r36 =>
 bif (r36.2.1 != (0 : Int)) then (some ((([] : List Bs), ([] : List Bs), ([] : List (Bs × Bs))), r36.2.1))
 else (callO (bundle_decodePart N r36.2.2 162) fun r46 =>
 bif (r46.2.1 != (0 : Int)) then (some ((([] : List Bs), ([] : List Bs), ([] : List (Bs × Bs))), r46.2.1))
 else (iterG (X := Int × List Bs × List Bs × (List (Int × Bs × Bs)) × List (Bs × Bs)) (Y := (List Bs × List Bs × (List (Int × Bs × Bs)) × List (Bs × Bs))) (U5 fun t55a b34048_0a b34048_1a b37120_0a l1000000a k1 x2 =>
 bif decide (t55a < (r46.1.length : Int)) then (chk (decide ((0 : Int) ≤ t55a)) <|
 chk (decide (t55a < (r46.1.length : Int))) <|
 callO (bundle_decodePair N (r46.1.getD t55a.toNat ([] : Bs))) fun r61 =>
 bif (r61.2 != (0 : Int)) then (some ((([] : List Bs), ([] : List Bs), ([] : List (Bs × Bs))), r61.2))
 else (chk (decide ((l1000000a.length + 1) * 33 ≤ 140737488355328)) <|
 k1 (IntKind.i64.wrap (t55a + (1 : Int)), b34048_0a, b34048_1a, b37120_0a, l1000000a ++ ([r61.1] : List (Bs × Bs)))))
 else (x2 (b34048_0a, b34048_1a, b37120_0a, l1000000a)))
 N (0, r26.1, r36.1, r46.2.2, ([] : List (Bs × Bs))) (U4 fun b34048_0b b34048_1b b37120_0b l1004096b =>
 callO (der_Reader_Done N b37120_0b) fun r76 =>
 bif (r76.1 != (0 : Int)) then (some ((([] : List Bs), ([] : List Bs), ([] : List (Bs × Bs))), r76.1))
 else (callO (bundle_Check N (b34048_0b, b34048_1b, l1004096b)) fun r82 =>
 bif (r82 != (0 : Int)) then (some ((([] : List Bs), ([] : List Bs), ([] : List (Bs × Bs))), r82))
 else (some ((b34048_0b, b34048_1b, l1004096b), 0)))))))))
 (fun r17 =>
 bif (r17.2 != (0 : Int)) then (some ((([] : List Bs), ([] : List Bs), ([] : List (Bs × Bs))), r17.2))
 else (none))

-- certpath/certpathlaw20.awake
abbrev law20_awake_O : Type := Bool
def law20_awake (N : Nat)  : Option law20_awake_O :=
 callO (bundle_Encode N (([] : List Bs), ([] : List Bs), ([] : List (Bs × Bs)))) fun r9 =>
 callO (bundle_Encode N (([] : List Bs), ([([48, 0] : Bs)] : List Bs), ([] : List (Bs × Bs)))) fun r15 =>
 callO (bundle_Decode N r15.1) fun r20 =>
 chk (((r9.2 == (0 : Int)) || (!(r9.2 == (0 : Int))))) <|
 chk (bif (r9.2 == (0 : Int)) then (r9.2 == (0 : Int)) else true) <|
 chk (bif (r9.2 == (0 : Int)) then true else true) <|
 chk (((bif (r9.2 == (0 : Int)) then (r9.1 == ([48, 0] : Bs)) else false) || (!(bif (r9.2 == (0 : Int)) then (r9.1 == ([48, 0] : Bs)) else false)))) <|
 chk (bif bif (r9.2 == (0 : Int)) then (r9.1 == ([48, 0] : Bs)) else false then bif (r9.2 == (0 : Int)) then (r9.1 == ([48, 0] : Bs)) else false else true) <|
 chk (bif bif (r9.2 == (0 : Int)) then (r9.1 == ([48, 0] : Bs)) else false then true else true) <|
 let x32 : Bool := bif bif (r9.2 == (0 : Int)) then (r9.1 == ([48, 0] : Bs)) else false then (r15.2 == (0 : Int)) else false
 chk ((x32 || (!x32))) <|
 chk (bif x32 then x32 else true) <|
 chk (bif x32 then true else true) <|
 chk (((bif x32 then (r20.2 == (0 : Int)) else false) || (!(bif x32 then (r20.2 == (0 : Int)) else false)))) <|
 chk (((bif x32 then (r20.2 == (0 : Int)) else false) || (!(bif x32 then (r20.2 == (0 : Int)) else false)))) <|
 chk (((bif x32 then (r20.2 == (0 : Int)) else false) || (!(bif x32 then (r20.2 == (0 : Int)) else false)))) <|
 chk (bif bif x32 then (r20.2 == (0 : Int)) else false then bif x32 then (r20.2 == (0 : Int)) else false else true) <|
 chk (bif bif x32 then (r20.2 == (0 : Int)) else false then true else true) <|
 let x42 : Bool := bif bif x32 then (r20.2 == (0 : Int)) else false then ((r20.1.2.1.length : Int) == (1 : Int)) else false
 chk ((x42 || (!x42))) <|
 chk ((x42 || (!x42))) <|
 chk (((decide ((0 : Int) < (r20.1.2.1.length : Int))) || (!x42))) <|
 chk ((x42 || (!x42))) <|
 chk ((x42 || (!x42))) <|
 chk (bif x42 then x42 else true) <|
 chk (bif x42 then true else true) <|
 let x49 : Bool := bif x42 then ((r20.1.2.1.getD 0 ([] : Bs)) == ([48, 0] : Bs)) else false
 some x49

-- certpath/certpathmade.New
abbrev made_New_O : Type := List Int × Int
def made_New (N : Nat) (p0 : List Int) : Option made_New_O :=
 some (p0, 0)

-- (*certpath/certpathmade.Deck).Next
abbrev made_Deck_Next_O : Type := Int × List Int × Int
def made_Deck_Next (N : Nat) (p0 : List Int × Int) (p1 : Int) : Option made_Deck_Next_O :=
 bif decide (p0.2 ≥ (p0.1.length : Int)) then (some (0, p0))
 else (chk (decide ((0 : Int) ≤ IntKind.i64.wrap ((IntKind.i64.wrap (p0.2 + (1 : Int))) - (1 : Int)))) <|
 chk (decide (IntKind.i64.wrap ((IntKind.i64.wrap (p0.2 + (1 : Int))) - (1 : Int)) < (p0.1.length : Int))) <|
 let x32 : Int := (p0.1.getD ((IntKind.i64.wrap ((IntKind.i64.wrap (p0.2 + (1 : Int))) - (1 : Int))).toNat) 0)
 chk ((p1 != 0)) <|
 chk ((p1 != 0)) <|
 some ((IntKind.i64.wrap ((x32.tmod p1) + p1)).tmod p1, (p0.1, IntKind.i64.wrap (p0.2 + (1 : Int)))))

-- certpath/certpathref01.arcs
abbrev ref01_arcs_O : Type := List Int × Bool
def ref01_arcs (N : Nat) (p0 : Bs) : Option ref01_arcs_O :=
 iterG (X := Int × Int × List Int) (Y := (List Int)) (U3 fun t5a t6a l1000000a k1 x2 =>
 bif decide (t6a ≤ (p0.length : Int)) then (chk (((decide (t6a < (p0.length : Int))) || (!(decide (t6a < (p0.length : Int)))))) <|
 chk (((decide (t6a < (p0.length : Int))) || (!(decide (t6a < (p0.length : Int)))))) <|
 chk (((decide ((0 : Int) ≤ t6a)) || (!(decide (t6a < (p0.length : Int)))))) <|
 chk (((decide (t6a < (p0.length : Int))) || (!(decide (t6a < (p0.length : Int)))))) <|
 chk (((decide (t6a < (p0.length : Int))) || (!(decide (t6a < (p0.length : Int)))))) <|
 chk (bif decide (t6a < (p0.length : Int)) then decide (t6a < (p0.length : Int)) else true) <|
 chk (bif decide (t6a < (p0.length : Int)) then true else true) <|
 let x25 : Bool := bif decide (t6a < (p0.length : Int)) then (((p0.getD t6a.toNat 0).toNat : Int) != (46 : Int)) else false
 bif x25 then (chk (decide ((0 : Int) ≤ t6a)) <|
 chk (decide (t6a < (p0.length : Int))) <|
 chk (((!(decide (((p0.getD t6a.toNat 0).toNat : Int) < (48 : Int)))) || (!(!(decide (((p0.getD t6a.toNat 0).toNat : Int) < (48 : Int))))))) <|
 chk (((!(decide (((p0.getD t6a.toNat 0).toNat : Int) < (48 : Int)))) || (!(!(decide (((p0.getD t6a.toNat 0).toNat : Int) < (48 : Int))))))) <|
 chk (((decide ((0 : Int) ≤ t6a)) || (!(!(decide (((p0.getD t6a.toNat 0).toNat : Int) < (48 : Int))))))) <|
 chk (((decide (t6a < (p0.length : Int))) || (!(!(decide (((p0.getD t6a.toNat 0).toNat : Int) < (48 : Int))))))) <|
 chk (((!(decide (((p0.getD t6a.toNat 0).toNat : Int) < (48 : Int)))) || (!(!(decide (((p0.getD t6a.toNat 0).toNat : Int) < (48 : Int))))))) <|
 chk (bif decide (((p0.getD t6a.toNat 0).toNat : Int) < (48 : Int)) then true else !(decide (((p0.getD t6a.toNat 0).toNat : Int) < (48 : Int)))) <|
 chk (bif decide (((p0.getD t6a.toNat 0).toNat : Int) < (48 : Int)) then true else true) <|
 let x35 : Bool := bif decide (((p0.getD t6a.toNat 0).toNat : Int) < (48 : Int)) then true else decide (((p0.getD t6a.toNat 0).toNat : Int) > (57 : Int))
 bif x35 then (some (([] : List Int), false))
 else (k1 (t5a, IntKind.i64.wrap (t6a + (1 : Int)), l1000000a)))
 else (chk (decide ((0 : Int) ≤ t5a)) <|
 chk (decide (t5a ≤ t6a)) <|
 chk (decide (t6a ≤ (p0.length : Int))) <|
 chk (((!(((cutL p0 t5a.toNat t6a.toNat).length : Int) == (0 : Int))) || (!(!(((cutL p0 t5a.toNat t6a.toNat).length : Int) == (0 : Int)))))) <|
 chk (((!(((cutL p0 t5a.toNat t6a.toNat).length : Int) == (0 : Int))) || (!(!(((cutL p0 t5a.toNat t6a.toNat).length : Int) == (0 : Int)))))) <|
 chk (bif (((cutL p0 t5a.toNat t6a.toNat).length : Int) == (0 : Int)) then true else !(((cutL p0 t5a.toNat t6a.toNat).length : Int) == (0 : Int))) <|
 chk (bif (((cutL p0 t5a.toNat t6a.toNat).length : Int) == (0 : Int)) then true else true) <|
 let x47 : Bool := bif (((cutL p0 t5a.toNat t6a.toNat).length : Int) == (0 : Int)) then true else decide (((cutL p0 t5a.toNat t6a.toNat).length : Int) > (10 : Int))
 chk (((!x47) || (!(!x47)))) <|
 chk (((!x47) || (!(!x47)))) <|
 chk (((!x47) || (!(!x47)))) <|
 chk ((((!x47) && (decide (((cutL p0 t5a.toNat t6a.toNat).length : Int) > (1 : Int)))) || (!((!x47) && (decide (((cutL p0 t5a.toNat t6a.toNat).length : Int) > (1 : Int))))))) <|
 chk (((decide ((0 : Int) < ((cutL p0 t5a.toNat t6a.toNat).length : Int))) || (!((!x47) && (decide (((cutL p0 t5a.toNat t6a.toNat).length : Int) > (1 : Int))))))) <|
 chk ((((!x47) && (decide (((cutL p0 t5a.toNat t6a.toNat).length : Int) > (1 : Int)))) || (!((!x47) && (decide (((cutL p0 t5a.toNat t6a.toNat).length : Int) > (1 : Int))))))) <|
 chk (((!x47) || (!(!x47)))) <|
 chk (((bif decide (((cutL p0 t5a.toNat t6a.toNat).length : Int) > (1 : Int)) then ((!x47) && (decide (((cutL p0 t5a.toNat t6a.toNat).length : Int) > (1 : Int)))) else true) || (!(!x47)))) <|
 chk (((bif decide (((cutL p0 t5a.toNat t6a.toNat).length : Int) > (1 : Int)) then true else true) || (!(!x47)))) <|
 let x56 : Bool := bif decide (((cutL p0 t5a.toNat t6a.toNat).length : Int) > (1 : Int)) then ((((cutL p0 t5a.toNat t6a.toNat).getD 0 0).toNat : Int) == (48 : Int)) else false
 chk (bif x47 then true else !x47) <|
 chk (bif x47 then true else true) <|
 chk (((!(bif x47 then true else x56)) || (!(!(bif x47 then true else x56))))) <|
 chk (((!(bif x47 then true else x56)) || (!(!(bif x47 then true else x56))))) <|
 chk (bif bif x47 then true else x56 then true else !(bif x47 then true else x56)) <|
 chk (bif bif x47 then true else x56 then true else true) <|
 let x62 : Bool := bif bif x47 then true else x56 then true else ((l1000000a.length : Int) == (12 : Int))
 bif x62 then (some (([] : List Int), false))
 else (iterG (X := Int × Int × List Int) (Y := (Int × List Int)) (U3 fun t8b t9b l1004096b k3 x4 =>
 bif decide (t9b < ((cutL p0 t5a.toNat t6a.toNat).length : Int)) then (chk (decide ((0 : Int) ≤ t9b)) <|
 chk (decide (t9b < ((cutL p0 t5a.toNat t6a.toNat).length : Int))) <|
 let x74 : Int := IntKind.u8.wrap ((((cutL p0 t5a.toNat t6a.toNat).getD t9b.toNat 0).toNat : Int) - (48 : Int))
 let x76 : Int := IntKind.i64.wrap ((IntKind.i64.wrap ((10 : Int) * t8b)) + (IntKind.i64.wrap x74))
 k3 (x76, IntKind.i64.wrap (t9b + (1 : Int)), l1004096b))
 else (x4 (t8b, l1004096b)))
 N (0, 0, l1000000a) (U2 fun t8c l1008192c =>
 bif decide (t8c > (2147483647 : Int)) then (some (([] : List Int), false))
 else (chk (decide ((l1008192c.length + 1) * 9 ≤ 140737488355328)) <|
 k1 (IntKind.i64.wrap (t6a + (1 : Int)), IntKind.i64.wrap (t6a + (1 : Int)), l1008192c ++ ([t8c] : List Int)))))))
 else (x2 l1000000a))
 N (0, 0, ([] : List Int)) (fun l1012288d =>
 chk (((!(decide ((l1012288d.length : Int) < (2 : Int)))) || (!(!(decide ((l1012288d.length : Int) < (2 : Int))))))) <|
 chk (((decide ((0 : Int) < (l1012288d.length : Int))) || (!(!(decide ((l1012288d.length : Int) < (2 : Int))))))) <|
 chk (((!(decide ((l1012288d.length : Int) < (2 : Int)))) || (!(!(decide ((l1012288d.length : Int) < (2 : Int))))))) <|
 chk (((decide (0 < l1012288d.length)) || (!(!(decide ((l1012288d.length : Int) < (2 : Int))))))) <|
 chk (((!(decide ((l1012288d.length : Int) < (2 : Int)))) || (!(!(decide ((l1012288d.length : Int) < (2 : Int))))))) <|
 chk (bif decide ((l1012288d.length : Int) < (2 : Int)) then true else !(decide ((l1012288d.length : Int) < (2 : Int)))) <|
 chk (bif decide ((l1012288d.length : Int) < (2 : Int)) then true else true) <|
 let x93 : Bool := bif decide ((l1012288d.length : Int) < (2 : Int)) then true else decide ((l1012288d.getD 0 0) > (2 : Int))
 chk (((!x93) || (!(!x93)))) <|
 chk (((decide ((0 : Int) < (l1012288d.length : Int))) || (!(!x93)))) <|
 chk (((!x93) || (!(!x93)))) <|
 chk (((decide (0 < l1012288d.length)) || (!(!x93)))) <|
 chk (((!x93) || (!(!x93)))) <|
 chk (((!x93) || (!(!x93)))) <|
 chk ((((!x93) && (decide ((l1012288d.getD 0 0) < (2 : Int)))) || (!((!x93) && (decide ((l1012288d.getD 0 0) < (2 : Int))))))) <|
 chk (((decide ((1 : Int) < (l1012288d.length : Int))) || (!((!x93) && (decide ((l1012288d.getD 0 0) < (2 : Int))))))) <|
 chk ((((!x93) && (decide ((l1012288d.getD 0 0) < (2 : Int)))) || (!((!x93) && (decide ((l1012288d.getD 0 0) < (2 : Int))))))) <|
 chk (((decide (1 < l1012288d.length)) || (!((!x93) && (decide ((l1012288d.getD 0 0) < (2 : Int))))))) <|
 chk ((((!x93) && (decide ((l1012288d.getD 0 0) < (2 : Int)))) || (!((!x93) && (decide ((l1012288d.getD 0 0) < (2 : Int))))))) <|
 chk (((!x93) || (!(!x93)))) <|
 chk (((bif decide ((l1012288d.getD 0 0) < (2 : Int)) then ((!x93) && (decide ((l1012288d.getD 0 0) < (2 : Int)))) else true) || (!(!x93)))) <|
 chk (((bif decide ((l1012288d.getD 0 0) < (2 : Int)) then true else true) || (!(!x93)))) <|
 let x104 : Bool := bif decide ((l1012288d.getD 0 0) < (2 : Int)) then decide ((l1012288d.getD 1 0) > (39 : Int)) else false
 chk (bif x93 then true else !x93) <|
 chk (bif x93 then true else true) <|
 bif bif x93 then true else x104 then (some (([] : List Int), false))
 else (some (l1012288d, true)))

-- certpath/certpathref01.ValidOID
abbrev ref01_ValidOID_O : Type := Bool
def ref01_ValidOID (N : Nat) (p0 : Bs) : Option ref01_ValidOID_O :=
 callO (ref01_arcs N p0) fun r7 =>
 some r7.2

-- certpath/certpathref01.utf8
abbrev ref01_utf8_O : Type := Bool
def ref01_utf8 (N : Nat) (p0 : Bs) : Option ref01_utf8_O :=
 iterG (X := Int) (Y := Unit) (fun t3a k1 x2 =>
 bif decide (t3a < (p0.length : Int)) then (chk (decide ((0 : Int) ≤ t3a)) <|
 chk (decide (t3a < (p0.length : Int))) <|
 letJ (α := Int × Int × Int) (fun j3 =>
 chk (((!(decide (((p0.getD t3a.toNat 0).toNat : Int) < (32 : Int)))) || (!(!(decide (((p0.getD t3a.toNat 0).toNat : Int) < (32 : Int))))))) <|
 chk (bif decide (((p0.getD t3a.toNat 0).toNat : Int) < (32 : Int)) then true else !(decide (((p0.getD t3a.toNat 0).toNat : Int) < (32 : Int)))) <|
 chk (bif decide (((p0.getD t3a.toNat 0).toNat : Int) < (32 : Int)) then true else true) <|
 let x22 : Bool := bif decide (((p0.getD t3a.toNat 0).toNat : Int) < (32 : Int)) then true else (((p0.getD t3a.toNat 0).toNat : Int) == (127 : Int))
 bif x22 then (some false)
 else (bif decide (((p0.getD t3a.toNat 0).toNat : Int) < (128 : Int)) then (k1 (IntKind.i64.wrap (t3a + (1 : Int))))
 else (chk (((decide (((p0.getD t3a.toNat 0).toNat : Int) ≥ (192 : Int))) || (!(decide (((p0.getD t3a.toNat 0).toNat : Int) ≥ (192 : Int)))))) <|
 chk (bif decide (((p0.getD t3a.toNat 0).toNat : Int) ≥ (192 : Int)) then decide (((p0.getD t3a.toNat 0).toNat : Int) ≥ (192 : Int)) else true) <|
 chk (bif decide (((p0.getD t3a.toNat 0).toNat : Int) ≥ (192 : Int)) then true else true) <|
 let x34 : Bool := bif decide (((p0.getD t3a.toNat 0).toNat : Int) ≥ (192 : Int)) then decide (((p0.getD t3a.toNat 0).toNat : Int) < (224 : Int)) else false
 bif x34 then (j3 (t3a, 1, 128))
 else (chk (((decide (((p0.getD t3a.toNat 0).toNat : Int) ≥ (224 : Int))) || (!(decide (((p0.getD t3a.toNat 0).toNat : Int) ≥ (224 : Int)))))) <|
 chk (bif decide (((p0.getD t3a.toNat 0).toNat : Int) ≥ (224 : Int)) then decide (((p0.getD t3a.toNat 0).toNat : Int) ≥ (224 : Int)) else true) <|
 chk (bif decide (((p0.getD t3a.toNat 0).toNat : Int) ≥ (224 : Int)) then true else true) <|
 let x41 : Bool := bif decide (((p0.getD t3a.toNat 0).toNat : Int) ≥ (224 : Int)) then decide (((p0.getD t3a.toNat 0).toNat : Int) < (240 : Int)) else false
 bif x41 then (j3 (t3a, 2, 2048))
 else (chk (((decide (((p0.getD t3a.toNat 0).toNat : Int) ≥ (240 : Int))) || (!(decide (((p0.getD t3a.toNat 0).toNat : Int) ≥ (240 : Int)))))) <|
 chk (bif decide (((p0.getD t3a.toNat 0).toNat : Int) ≥ (240 : Int)) then decide (((p0.getD t3a.toNat 0).toNat : Int) ≥ (240 : Int)) else true) <|
 chk (bif decide (((p0.getD t3a.toNat 0).toNat : Int) ≥ (240 : Int)) then true else true) <|
 let x48 : Bool := bif decide (((p0.getD t3a.toNat 0).toNat : Int) ≥ (240 : Int)) then decide (((p0.getD t3a.toNat 0).toNat : Int) < (248 : Int)) else false
 bif x48 then (j3 (t3a, 3, 65536))
 else (some false))))))
 (U3 fun t3b t5b t6b =>
 bif decide ((IntKind.i64.wrap ((p0.length : Int) - t3b)) ≤ t5b) then (some false)
 else (chk (decide ((0 : Int) ≤ IntKind.i64.wrap ((6 : Int) - t5b))) <|
 let x59 : Int := IntKind.i64.wrap ((1 : Int) * (2 ^ (min (IntKind.i64.wrap ((6 : Int) - t5b)).toNat 64)))
 let x61 : Int := bitsI .and .i64 (IntKind.i64.wrap ((p0.getD t3a.toNat 0).toNat : Int)) (IntKind.i64.wrap (x59 - (1 : Int)))
 iterG (X := Int × Int) (Y := Int) (U2 fun t7c t8c k4 x5 =>
 bif decide (t8c ≤ t5b) then (chk (decide ((0 : Int) ≤ IntKind.i64.wrap (t3b + t8c))) <|
 chk (decide (IntKind.i64.wrap (t3b + t8c) < (p0.length : Int))) <|
 let x72 : Int := IntKind.u8.wrap (((p0.getD ((IntKind.i64.wrap (t3b + t8c)).toNat) 0).toNat : Int).tdiv 64)
 bif (x72 != (2 : Int)) then (some false)
 else (chk (decide ((0 : Int) ≤ IntKind.i64.wrap (t3b + t8c))) <|
 chk (decide (IntKind.i64.wrap (t3b + t8c) < (p0.length : Int))) <|
 let x81 : Int := ((p0.getD ((IntKind.i64.wrap (t3b + t8c)).toNat) 0).toNat : Int).tmod 64
 let x83 : Int := IntKind.i64.wrap ((IntKind.i64.wrap ((64 : Int) * t7c)) + (IntKind.i64.wrap x81))
 k4 (x83, IntKind.i64.wrap (t8c + (1 : Int)))))
 else (x5 t7c))
 N (x61, 1) (fun t7d =>
 chk (((!(decide (t7d < t6b))) || (!(!(decide (t7d < t6b)))))) <|
 chk (bif decide (t7d < t6b) then true else !(decide (t7d < t6b))) <|
 chk (bif decide (t7d < t6b) then true else true) <|
 chk (((!(bif decide (t7d < t6b) then true else decide (t7d > (1114111 : Int)))) || (!(!(bif decide (t7d < t6b) then true else decide (t7d > (1114111 : Int))))))) <|
 chk (((!(bif decide (t7d < t6b) then true else decide (t7d > (1114111 : Int)))) || (!(!(bif decide (t7d < t6b) then true else decide (t7d > (1114111 : Int))))))) <|
 chk ((((!(bif decide (t7d < t6b) then true else decide (t7d > (1114111 : Int)))) && (decide (t7d ≥ (55296 : Int)))) || (!((!(bif decide (t7d < t6b) then true else decide (t7d > (1114111 : Int)))) && (decide (t7d ≥ (55296 : Int))))))) <|
 chk (((!(bif decide (t7d < t6b) then true else decide (t7d > (1114111 : Int)))) || (!(!(bif decide (t7d < t6b) then true else decide (t7d > (1114111 : Int))))))) <|
 chk (((bif decide (t7d ≥ (55296 : Int)) then ((!(bif decide (t7d < t6b) then true else decide (t7d > (1114111 : Int)))) && (decide (t7d ≥ (55296 : Int)))) else true) || (!(!(bif decide (t7d < t6b) then true else decide (t7d > (1114111 : Int))))))) <|
 chk (((bif decide (t7d ≥ (55296 : Int)) then true else true) || (!(!(bif decide (t7d < t6b) then true else decide (t7d > (1114111 : Int))))))) <|
 let x97 : Bool := bif decide (t7d ≥ (55296 : Int)) then decide (t7d < (57344 : Int)) else false
 chk (bif bif decide (t7d < t6b) then true else decide (t7d > (1114111 : Int)) then true else !(bif decide (t7d < t6b) then true else decide (t7d > (1114111 : Int)))) <|
 chk (bif bif decide (t7d < t6b) then true else decide (t7d > (1114111 : Int)) then true else true) <|
 let x98 : Bool := bif bif decide (t7d < t6b) then true else decide (t7d > (1114111 : Int)) then true else x97
 bif x98 then (some false)
 else (k1 (IntKind.i64.wrap (t3b + (IntKind.i64.wrap (t5b + (1 : Int))))))))))
 else (x2 ()))
 N 0 (fun _ =>
 some true)

-- certpath/certpathref01.Alnum
abbrev ref01_Alnum_O : Type := Bool
def ref01_Alnum (N : Nat) (p0 : Int) : Option ref01_Alnum_O :=
 chk (((decide (p0 ≥ (65 : Int))) || (!(decide (p0 ≥ (65 : Int)))))) <|
 chk (bif decide (p0 ≥ (65 : Int)) then decide (p0 ≥ (65 : Int)) else true) <|
 chk (bif decide (p0 ≥ (65 : Int)) then true else true) <|
 chk (((!(bif decide (p0 ≥ (65 : Int)) then decide (p0 ≤ (90 : Int)) else false)) || (!(!(bif decide (p0 ≥ (65 : Int)) then decide (p0 ≤ (90 : Int)) else false))))) <|
 chk (((!(bif decide (p0 ≥ (65 : Int)) then decide (p0 ≤ (90 : Int)) else false)) || (!(!(bif decide (p0 ≥ (65 : Int)) then decide (p0 ≤ (90 : Int)) else false))))) <|
 chk ((((!(bif decide (p0 ≥ (65 : Int)) then decide (p0 ≤ (90 : Int)) else false)) && (decide (p0 ≥ (97 : Int)))) || (!((!(bif decide (p0 ≥ (65 : Int)) then decide (p0 ≤ (90 : Int)) else false)) && (decide (p0 ≥ (97 : Int))))))) <|
 chk (((!(bif decide (p0 ≥ (65 : Int)) then decide (p0 ≤ (90 : Int)) else false)) || (!(!(bif decide (p0 ≥ (65 : Int)) then decide (p0 ≤ (90 : Int)) else false))))) <|
 chk (((bif decide (p0 ≥ (97 : Int)) then ((!(bif decide (p0 ≥ (65 : Int)) then decide (p0 ≤ (90 : Int)) else false)) && (decide (p0 ≥ (97 : Int)))) else true) || (!(!(bif decide (p0 ≥ (65 : Int)) then decide (p0 ≤ (90 : Int)) else false))))) <|
 chk (((bif decide (p0 ≥ (97 : Int)) then true else true) || (!(!(bif decide (p0 ≥ (65 : Int)) then decide (p0 ≤ (90 : Int)) else false))))) <|
 chk (bif bif decide (p0 ≥ (65 : Int)) then decide (p0 ≤ (90 : Int)) else false then true else !(bif decide (p0 ≥ (65 : Int)) then decide (p0 ≤ (90 : Int)) else false)) <|
 chk (bif bif decide (p0 ≥ (65 : Int)) then decide (p0 ≤ (90 : Int)) else false then true else true) <|
 let x16 : Bool := bif bif decide (p0 ≥ (65 : Int)) then decide (p0 ≤ (90 : Int)) else false then true else bif decide (p0 ≥ (97 : Int)) then decide (p0 ≤ (122 : Int)) else false
 chk (((!x16) || (!(!x16)))) <|
 chk (((!x16) || (!(!x16)))) <|
 chk ((((!x16) && (decide (p0 ≥ (48 : Int)))) || (!((!x16) && (decide (p0 ≥ (48 : Int))))))) <|
 chk (((!x16) || (!(!x16)))) <|
 chk (((bif decide (p0 ≥ (48 : Int)) then ((!x16) && (decide (p0 ≥ (48 : Int)))) else true) || (!(!x16)))) <|
 chk (((bif decide (p0 ≥ (48 : Int)) then true else true) || (!(!x16)))) <|
 chk (bif x16 then true else !x16) <|
 chk (bif x16 then true else true) <|
 let x24 : Bool := bif x16 then true else bif decide (p0 ≥ (48 : Int)) then decide (p0 ≤ (57 : Int)) else false
 some x24

-- certpath/certpathref01.Among
abbrev ref01_Among_O : Type := Bool
def ref01_Among (N : Nat) (p0 : Int) (p1 : Bs) : Option ref01_Among_O :=
 iterG (X := Int) (Y := Unit) (fun t5a k1 x2 =>
 bif decide (t5a < (p1.length : Int)) then (chk (decide ((0 : Int) ≤ t5a)) <|
 chk (decide (t5a < (p1.length : Int))) <|
 bif (((p1.getD t5a.toNat 0).toNat : Int) == p0) then (some true)
 else (k1 (IntKind.i64.wrap (t5a + (1 : Int)))))
 else (x2 ()))
 N 0 (fun _ =>
 some false)

-- certpath/certpathref01.ValidText
abbrev ref01_ValidText_O : Type := Bool
def ref01_ValidText (N : Nat) (p0 : Int) (p1 : Bs) : Option ref01_ValidText_O :=
 bif (p0 == (12 : Int)) then (callO (ref01_utf8 N p1) fun r10 =>
 some r10)
 else (letJ (α := Bool) (fun j1 =>
 bif (p0 == (19 : Int)) then (j1 (p0 == (19 : Int)))
 else (j1 (p0 == (22 : Int))))
 (fun t11a =>
 bif t11a then (iterG (X := Int) (Y := Unit) (fun t5b k2 x3 =>
 bif decide (t5b < (p1.length : Int)) then (chk (((p0 == (22 : Int)) || (!(p0 == (22 : Int))))) <|
 chk (((p0 == (22 : Int)) || (!(p0 == (22 : Int))))) <|
 chk (((decide ((0 : Int) ≤ t5b)) || (!(p0 == (22 : Int))))) <|
 chk (((decide (t5b < (p1.length : Int))) || (!(p0 == (22 : Int))))) <|
 chk (((p0 == (22 : Int)) || (!(p0 == (22 : Int))))) <|
 chk (((p0 == (22 : Int)) || (!(p0 == (22 : Int))))) <|
 chk ((((p0 == (22 : Int)) && (!(decide (((p1.getD t5b.toNat 0).toNat : Int) < (32 : Int))))) || (!((p0 == (22 : Int)) && (!(decide (((p1.getD t5b.toNat 0).toNat : Int) < (32 : Int)))))))) <|
 chk ((((p0 == (22 : Int)) && (!(decide (((p1.getD t5b.toNat 0).toNat : Int) < (32 : Int))))) || (!((p0 == (22 : Int)) && (!(decide (((p1.getD t5b.toNat 0).toNat : Int) < (32 : Int)))))))) <|
 chk (((decide ((0 : Int) ≤ t5b)) || (!((p0 == (22 : Int)) && (!(decide (((p1.getD t5b.toNat 0).toNat : Int) < (32 : Int)))))))) <|
 chk (((decide (t5b < (p1.length : Int))) || (!((p0 == (22 : Int)) && (!(decide (((p1.getD t5b.toNat 0).toNat : Int) < (32 : Int)))))))) <|
 chk ((((p0 == (22 : Int)) && (!(decide (((p1.getD t5b.toNat 0).toNat : Int) < (32 : Int))))) || (!((p0 == (22 : Int)) && (!(decide (((p1.getD t5b.toNat 0).toNat : Int) < (32 : Int)))))))) <|
 chk (((p0 == (22 : Int)) || (!(p0 == (22 : Int))))) <|
 chk (((bif decide (((p1.getD t5b.toNat 0).toNat : Int) < (32 : Int)) then true else ((p0 == (22 : Int)) && (!(decide (((p1.getD t5b.toNat 0).toNat : Int) < (32 : Int)))))) || (!(p0 == (22 : Int))))) <|
 chk (((bif decide (((p1.getD t5b.toNat 0).toNat : Int) < (32 : Int)) then true else true) || (!(p0 == (22 : Int))))) <|
 let x32 : Bool := bif decide (((p1.getD t5b.toNat 0).toNat : Int) < (32 : Int)) then true else decide (((p1.getD t5b.toNat 0).toNat : Int) > (126 : Int))
 chk (bif (p0 == (22 : Int)) then (p0 == (22 : Int)) else true) <|
 chk (bif (p0 == (22 : Int)) then true else true) <|
 chk (((!(bif (p0 == (22 : Int)) then x32 else false)) || (!(!(bif (p0 == (22 : Int)) then x32 else false))))) <|
 chk (((!(bif (p0 == (22 : Int)) then x32 else false)) || (!(!(bif (p0 == (22 : Int)) then x32 else false))))) <|
 chk ((((!(bif (p0 == (22 : Int)) then x32 else false)) && (p0 == (19 : Int))) || (!((!(bif (p0 == (22 : Int)) then x32 else false)) && (p0 == (19 : Int)))))) <|
 chk ((((!(bif (p0 == (22 : Int)) then x32 else false)) && (p0 == (19 : Int))) || (!((!(bif (p0 == (22 : Int)) then x32 else false)) && (p0 == (19 : Int)))))) <|
 chk (((decide ((0 : Int) ≤ t5b)) || (!((!(bif (p0 == (22 : Int)) then x32 else false)) && (p0 == (19 : Int)))))) <|
 chk (((decide (t5b < (p1.length : Int))) || (!((!(bif (p0 == (22 : Int)) then x32 else false)) && (p0 == (19 : Int)))))) <|
 chk ((((!(bif (p0 == (22 : Int)) then x32 else false)) && (p0 == (19 : Int))) || (!((!(bif (p0 == (22 : Int)) then x32 else false)) && (p0 == (19 : Int)))))) <|
 chk ((((ref01_Alnum N ((p1.getD t5b.toNat 0).toNat : Int)).isSome) || (!((!(bif (p0 == (22 : Int)) then x32 else false)) && (p0 == (19 : Int)))))) <|
 let r41 := (ref01_Alnum N ((p1.getD t5b.toNat 0).toNat : Int)).getD default
 chk ((((!(bif (p0 == (22 : Int)) then x32 else false)) && (p0 == (19 : Int))) || (!((!(bif (p0 == (22 : Int)) then x32 else false)) && (p0 == (19 : Int)))))) <|
 chk (((!(bif (p0 == (22 : Int)) then x32 else false)) || (!(!(bif (p0 == (22 : Int)) then x32 else false))))) <|
 chk (((bif (p0 == (19 : Int)) then ((!(bif (p0 == (22 : Int)) then x32 else false)) && (p0 == (19 : Int))) else true) || (!(!(bif (p0 == (22 : Int)) then x32 else false))))) <|
 chk (((bif (p0 == (19 : Int)) then true else true) || (!(!(bif (p0 == (22 : Int)) then x32 else false))))) <|
 chk (((!(bif (p0 == (22 : Int)) then x32 else false)) || (!(!(bif (p0 == (22 : Int)) then x32 else false))))) <|
 chk ((((!(bif (p0 == (22 : Int)) then x32 else false)) && (bif (p0 == (19 : Int)) then !r41 else false)) || (!((!(bif (p0 == (22 : Int)) then x32 else false)) && (bif (p0 == (19 : Int)) then !r41 else false))))) <|
 chk ((((!(bif (p0 == (22 : Int)) then x32 else false)) && (bif (p0 == (19 : Int)) then !r41 else false)) || (!((!(bif (p0 == (22 : Int)) then x32 else false)) && (bif (p0 == (19 : Int)) then !r41 else false))))) <|
 chk (((decide ((0 : Int) ≤ t5b)) || (!((!(bif (p0 == (22 : Int)) then x32 else false)) && (bif (p0 == (19 : Int)) then !r41 else false))))) <|
 chk (((decide (t5b < (p1.length : Int))) || (!((!(bif (p0 == (22 : Int)) then x32 else false)) && (bif (p0 == (19 : Int)) then !r41 else false))))) <|
 chk ((((!(bif (p0 == (22 : Int)) then x32 else false)) && (bif (p0 == (19 : Int)) then !r41 else false)) || (!((!(bif (p0 == (22 : Int)) then x32 else false)) && (bif (p0 == (19 : Int)) then !r41 else false))))) <|
 chk ((((ref01_Among N ((p1.getD t5b.toNat 0).toNat : Int) ([32, 39, 40, 41, 43, 44, 45, 46, 47, 58, 61, 63] : Bs)).isSome) || (!((!(bif (p0 == (22 : Int)) then x32 else false)) && (bif (p0 == (19 : Int)) then !r41 else false))))) <|
 let r48 := (ref01_Among N ((p1.getD t5b.toNat 0).toNat : Int) ([32, 39, 40, 41, 43, 44, 45, 46, 47, 58, 61, 63] : Bs)).getD default
 chk ((((!(bif (p0 == (22 : Int)) then x32 else false)) && (bif (p0 == (19 : Int)) then !r41 else false)) || (!((!(bif (p0 == (22 : Int)) then x32 else false)) && (bif (p0 == (19 : Int)) then !r41 else false))))) <|
 chk (((!(bif (p0 == (22 : Int)) then x32 else false)) || (!(!(bif (p0 == (22 : Int)) then x32 else false))))) <|
 chk (((bif bif (p0 == (19 : Int)) then !r41 else false then ((!(bif (p0 == (22 : Int)) then x32 else false)) && (bif (p0 == (19 : Int)) then !r41 else false)) else true) || (!(!(bif (p0 == (22 : Int)) then x32 else false))))) <|
 chk (((bif bif (p0 == (19 : Int)) then !r41 else false then true else true) || (!(!(bif (p0 == (22 : Int)) then x32 else false))))) <|
 chk (bif bif (p0 == (22 : Int)) then x32 else false then true else !(bif (p0 == (22 : Int)) then x32 else false)) <|
 chk (bif bif (p0 == (22 : Int)) then x32 else false then true else true) <|
 let x51 : Bool := bif bif (p0 == (22 : Int)) then x32 else false then true else bif bif (p0 == (19 : Int)) then !r41 else false then !r48 else false
 bif x51 then (some false)
 else (k2 (IntKind.i64.wrap (t5b + (1 : Int)))))
 else (x3 ()))
 N 0 (fun _ =>
 some true))
 else (some false)))

-- certpath/certpathref07.checkAttributes
abbrev ref07_checkAttributes_O : Type := Int
def ref07_checkAttributes (N : Nat) (p0 : Yq2) : Option ref07_checkAttributes_O :=
 iterG (X := Int) (Y := Unit) (fun t8a k1 x2 =>
 bif decide (t8a < (p0.length : Int)) then (chk (decide ((0 : Int) ≤ t8a)) <|
 chk (decide (t8a < (p0.length : Int))) <|
 callO (ref01_ValidOID N ((p0.getD t8a.toNat (([] : Bs), 0, ([] : Bs))).1)) fun r15 =>
 bif !r15 then (some 11)
 else (let x20 : Bool := ((((p0.getD t8a.toNat (([] : Bs), 0, ([] : Bs))).2.2).length : Int) == (0 : Int))
 chk (((!x20) || (!(!x20)))) <|
 chk (((!x20) || (!(!x20)))) <|
 chk (((!x20) || (!(!x20)))) <|
 chk (((!x20) || (!(!x20)))) <|
 chk ((((ref01_ValidText N ((p0.getD t8a.toNat (([] : Bs), 0, ([] : Bs))).2.1) ((p0.getD t8a.toNat (([] : Bs), 0, ([] : Bs))).2.2)).isSome) || (!(!x20)))) <|
 let r26 := (ref01_ValidText N ((p0.getD t8a.toNat (([] : Bs), 0, ([] : Bs))).2.1) ((p0.getD t8a.toNat (([] : Bs), 0, ([] : Bs))).2.2)).getD default
 chk (((!x20) || (!(!x20)))) <|
 chk (bif x20 then true else !x20) <|
 chk (bif x20 then true else true) <|
 bif bif x20 then true else !r26 then (some 13)
 else (let x32 : Bool := decide ((((p0.getD t8a.toNat (([] : Bs), 0, ([] : Bs))).2.2).length : Int) > (64 : Int))
 bif x32 then (some 2)
 else (iterG (X := Int × Bs × Int × Bs) (Y := Unit) (U4 fun t5b b33792_0b b33792_1b b33792_2b k3 x4 =>
 bif decide (t5b < t8a) then (chk (decide ((0 : Int) ≤ t5b)) <|
 chk (decide (t5b < (p0.length : Int))) <|
 bif (((p0.getD t5b.toNat (([] : Bs), 0, ([] : Bs))).1) == b33792_0b) then (some 10)
 else (k3 (IntKind.i64.wrap (t5b + (1 : Int)), b33792_0b, b33792_1b, b33792_2b)))
 else (x4 ()))
 N (0, (p0.getD t8a.toNat (([] : Bs), 0, ([] : Bs))).1, (p0.getD t8a.toNat (([] : Bs), 0, ([] : Bs))).2.1, (p0.getD t8a.toNat (([] : Bs), 0, ([] : Bs))).2.2) (fun _ =>
 k1 (IntKind.i64.wrap (t8a + (1 : Int))))))))
 else (x2 ()))
 N 0 (fun _ =>
 some 0)

-- certpath/certpathref07.CheckName
abbrev ref07_CheckName_O : Type := Int
def ref07_CheckName (N : Nat) (p0 : List Yq2) : Option ref07_CheckName_O :=
 bif decide ((p0.length : Int) > (8 : Int)) then (some 2)
 else (iterG (X := Int) (Y := Unit) (fun t13a k1 x2 =>
 bif decide (t13a < (p0.length : Int)) then (chk (decide ((0 : Int) ≤ t13a)) <|
 chk (decide (t13a < (p0.length : Int))) <|
 let x19 : Bool := (((p0.getD t13a.toNat ([] : List (Bs × Int × Bs))).length : Int) == (0 : Int))
 bif x19 then (some 14)
 else (let x22 : Bool := decide (((p0.getD t13a.toNat ([] : List (Bs × Int × Bs))).length : Int) > (4 : Int))
 bif x22 then (some 2)
 else (callO (ref07_checkAttributes N (p0.getD t13a.toNat ([] : List (Bs × Int × Bs)))) fun r24 =>
 bif (r24 != (0 : Int)) then (some r24)
 else (k1 (IntKind.i64.wrap (t13a + (1 : Int)))))))
 else (x2 ()))
 N 0 (fun _ =>
 some 0))

-- certpath/certpathref14.zeroScope
abbrev ref14_zeroScope_O : Type := Bool
def ref14_zeroScope (N : Nat) (p0 : Yq4) : Option ref14_zeroScope_O :=
 chk ((((p0.1.length : Int) == (0 : Int)) || (!((p0.1.length : Int) == (0 : Int))))) <|
 chk ((((p0.1.length : Int) == (0 : Int)) || (!((p0.1.length : Int) == (0 : Int))))) <|
 chk (bif ((p0.1.length : Int) == (0 : Int)) then ((p0.1.length : Int) == (0 : Int)) else true) <|
 chk (bif ((p0.1.length : Int) == (0 : Int)) then true else true) <|
 chk (((bif ((p0.1.length : Int) == (0 : Int)) then !p0.2.1 else false) || (!(bif ((p0.1.length : Int) == (0 : Int)) then !p0.2.1 else false)))) <|
 chk (((bif ((p0.1.length : Int) == (0 : Int)) then !p0.2.1 else false) || (!(bif ((p0.1.length : Int) == (0 : Int)) then !p0.2.1 else false)))) <|
 chk (bif bif ((p0.1.length : Int) == (0 : Int)) then !p0.2.1 else false then bif ((p0.1.length : Int) == (0 : Int)) then !p0.2.1 else false else true) <|
 chk (bif bif ((p0.1.length : Int) == (0 : Int)) then !p0.2.1 else false then true else true) <|
 let x16 : Bool := bif bif ((p0.1.length : Int) == (0 : Int)) then !p0.2.1 else false then !p0.2.2.1 else false
 chk ((x16 || (!x16))) <|
 chk ((x16 || (!x16))) <|
 chk (bif x16 then x16 else true) <|
 chk (bif x16 then true else true) <|
 chk (((bif x16 then (p0.2.2.2.1 == (0 : Int)) else false) || (!(bif x16 then (p0.2.2.2.1 == (0 : Int)) else false)))) <|
 chk (((bif x16 then (p0.2.2.2.1 == (0 : Int)) else false) || (!(bif x16 then (p0.2.2.2.1 == (0 : Int)) else false)))) <|
 chk (bif bif x16 then (p0.2.2.2.1 == (0 : Int)) else false then bif x16 then (p0.2.2.2.1 == (0 : Int)) else false else true) <|
 chk (bif bif x16 then (p0.2.2.2.1 == (0 : Int)) else false then true else true) <|
 let x26 : Bool := bif bif x16 then (p0.2.2.2.1 == (0 : Int)) else false then !p0.2.2.2.2 else false
 some x26

-- certpath/certpathref07.Split
abbrev ref07_Split_O : Type := List Bs
def ref07_Split (N : Nat) (p0 : Bs) (p1 : Int) : Option ref07_Split_O :=
 iterG (X := Int × Int × List Bs) (Y := (List Bs)) (U3 fun t6a t7a l1000000a k1 x2 =>
 bif decide (t7a ≤ (p0.length : Int)) then (chk (((!(t7a == (p0.length : Int))) || (!(!(t7a == (p0.length : Int)))))) <|
 chk (((!(t7a == (p0.length : Int))) || (!(!(t7a == (p0.length : Int)))))) <|
 chk (((decide ((0 : Int) ≤ t7a)) || (!(!(t7a == (p0.length : Int)))))) <|
 chk (((decide (t7a < (p0.length : Int))) || (!(!(t7a == (p0.length : Int)))))) <|
 chk (((!(t7a == (p0.length : Int))) || (!(!(t7a == (p0.length : Int)))))) <|
 chk (((!(t7a == (p0.length : Int))) || (!(!(t7a == (p0.length : Int)))))) <|
 chk (bif (t7a == (p0.length : Int)) then true else !(t7a == (p0.length : Int))) <|
 chk (bif (t7a == (p0.length : Int)) then true else true) <|
 let x24 : Bool := bif (t7a == (p0.length : Int)) then true else (((p0.getD t7a.toNat 0).toNat : Int) == p1)
 bif x24 then (chk (decide ((0 : Int) ≤ t6a)) <|
 chk (decide (t6a ≤ t7a)) <|
 chk (decide (t7a ≤ (p0.length : Int))) <|
 chk (decide ((l1000000a.length + 1) * 17 ≤ 140737488355328)) <|
 k1 (IntKind.i64.wrap (t7a + (1 : Int)), IntKind.i64.wrap (t7a + (1 : Int)), l1000000a ++ ([cutL p0 t6a.toNat t7a.toNat] : List Bs)))
 else (k1 (t6a, IntKind.i64.wrap (t7a + (1 : Int)), l1000000a)))
 else (x2 l1000000a))
 N (0, 0, ([] : List Bs)) (fun l1004096b =>
 some l1004096b)

-- certpath/certpathref07.DNS
abbrev ref07_DNS_O : Type := Bool
def ref07_DNS (N : Nat) (p0 : Bs) : Option ref07_DNS_O :=
 bif decide ((p0.length : Int) > (128 : Int)) then (some false)
 else (callO (ref07_Split N p0 46) fun r10 =>
 iterG (X := Int) (Y := Unit) (fun t12a k1 x2 =>
 bif decide (t12a < (r10.length : Int)) then (chk (decide ((0 : Int) ≤ t12a)) <|
 chk (decide (t12a < (r10.length : Int))) <|
 chk (((!(decide (((r10.getD t12a.toNat ([] : Bs)).length : Int) < (1 : Int)))) || (!(!(decide (((r10.getD t12a.toNat ([] : Bs)).length : Int) < (1 : Int))))))) <|
 chk (((!(decide (((r10.getD t12a.toNat ([] : Bs)).length : Int) < (1 : Int)))) || (!(!(decide (((r10.getD t12a.toNat ([] : Bs)).length : Int) < (1 : Int))))))) <|
 chk (bif decide (((r10.getD t12a.toNat ([] : Bs)).length : Int) < (1 : Int)) then true else !(decide (((r10.getD t12a.toNat ([] : Bs)).length : Int) < (1 : Int)))) <|
 chk (bif decide (((r10.getD t12a.toNat ([] : Bs)).length : Int) < (1 : Int)) then true else true) <|
 let x23 : Bool := bif decide (((r10.getD t12a.toNat ([] : Bs)).length : Int) < (1 : Int)) then true else decide (((r10.getD t12a.toNat ([] : Bs)).length : Int) > (63 : Int))
 chk (((!x23) || (!(!x23)))) <|
 chk (((decide ((0 : Int) < ((r10.getD t12a.toNat ([] : Bs)).length : Int))) || (!(!x23)))) <|
 chk (((!x23) || (!(!x23)))) <|
 let x27 : Bool := ((((r10.getD t12a.toNat ([] : Bs)).getD 0 0).toNat : Int) == (45 : Int))
 chk (bif x23 then true else !x23) <|
 chk (bif x23 then true else true) <|
 chk (((!(bif x23 then true else x27)) || (!(!(bif x23 then true else x27))))) <|
 chk (((!(bif x23 then true else x27)) || (!(!(bif x23 then true else x27))))) <|
 let x33 : Int := IntKind.i64.wrap (((r10.getD t12a.toNat ([] : Bs)).length : Int) - (1 : Int))
 chk (((!(bif x23 then true else x27)) || (!(!(bif x23 then true else x27))))) <|
 chk (((!(bif x23 then true else x27)) || (!(!(bif x23 then true else x27))))) <|
 chk (((decide ((0 : Int) ≤ x33)) || (!(!(bif x23 then true else x27))))) <|
 chk (((decide (x33 < ((r10.getD t12a.toNat ([] : Bs)).length : Int))) || (!(!(bif x23 then true else x27))))) <|
 chk (((!(bif x23 then true else x27)) || (!(!(bif x23 then true else x27))))) <|
 let x35 : Bool := ((((r10.getD t12a.toNat ([] : Bs)).getD x33.toNat 0).toNat : Int) == (45 : Int))
 chk (bif bif x23 then true else x27 then true else !(bif x23 then true else x27)) <|
 chk (bif bif x23 then true else x27 then true else true) <|
 bif bif bif x23 then true else x27 then true else x35 then (some false)
 else (iterG (X := Int) (Y := Unit) (fun t5b k3 x4 =>
 bif decide (t5b < ((r10.getD t12a.toNat ([] : Bs)).length : Int)) then (chk (decide ((0 : Int) ≤ t5b)) <|
 chk (decide (t5b < ((r10.getD t12a.toNat ([] : Bs)).length : Int))) <|
 callO (ref01_Alnum N (((r10.getD t12a.toNat ([] : Bs)).getD t5b.toNat 0).toNat : Int)) fun r46 =>
 chk (((!r46) || (!(!r46)))) <|
 chk (((!r46) || (!(!r46)))) <|
 chk (((decide ((0 : Int) ≤ t5b)) || (!(!r46)))) <|
 chk (((decide (t5b < ((r10.getD t12a.toNat ([] : Bs)).length : Int))) || (!(!r46)))) <|
 chk (((!r46) || (!(!r46)))) <|
 let x52 : Bool := ((((r10.getD t12a.toNat ([] : Bs)).getD t5b.toNat 0).toNat : Int) != (45 : Int))
 chk (bif !r46 then !r46 else true) <|
 chk (bif !r46 then true else true) <|
 bif bif !r46 then x52 else false then (some false)
 else (k3 (IntKind.i64.wrap (t5b + (1 : Int)))))
 else (x4 ()))
 N 0 (fun _ =>
 k1 (IntKind.i64.wrap (t12a + (1 : Int))))))
 else (x2 ()))
 N 0 (fun _ =>
 some true))

-- certpath/certpathref07.parts
abbrev ref07_parts_O : Type := Bs × Bs × Bool
def ref07_parts (N : Nat) (p0 : Bs) : Option ref07_parts_O :=
 bif decide ((p0.length : Int) > (128 : Int)) then (some (([] : Bs), ([] : Bs), false))
 else (iterG (X := Int) (Y := Int) (fun t5a k1 x2 =>
 chk (((decide (t5a < (p0.length : Int))) || (!(decide (t5a < (p0.length : Int)))))) <|
 chk (((decide (t5a < (p0.length : Int))) || (!(decide (t5a < (p0.length : Int)))))) <|
 chk (((decide ((0 : Int) ≤ t5a)) || (!(decide (t5a < (p0.length : Int)))))) <|
 chk (((decide (t5a < (p0.length : Int))) || (!(decide (t5a < (p0.length : Int)))))) <|
 chk (((decide (t5a < (p0.length : Int))) || (!(decide (t5a < (p0.length : Int)))))) <|
 chk (bif decide (t5a < (p0.length : Int)) then decide (t5a < (p0.length : Int)) else true) <|
 chk (bif decide (t5a < (p0.length : Int)) then true else true) <|
 let x19 : Bool := bif decide (t5a < (p0.length : Int)) then (((p0.getD t5a.toNat 0).toNat : Int) != (64 : Int)) else false
 bif x19 then (k1 (IntKind.i64.wrap (t5a + (1 : Int))))
 else (x2 t5a))
 N 0 (fun t5b =>
 chk (((!(decide (t5b < (1 : Int)))) || (!(!(decide (t5b < (1 : Int))))))) <|
 chk (bif decide (t5b < (1 : Int)) then true else !(decide (t5b < (1 : Int)))) <|
 chk (bif decide (t5b < (1 : Int)) then true else true) <|
 chk (((!(bif decide (t5b < (1 : Int)) then true else decide (t5b > (64 : Int)))) || (!(!(bif decide (t5b < (1 : Int)) then true else decide (t5b > (64 : Int))))))) <|
 chk (((!(bif decide (t5b < (1 : Int)) then true else decide (t5b > (64 : Int)))) || (!(!(bif decide (t5b < (1 : Int)) then true else decide (t5b > (64 : Int))))))) <|
 chk (((!(bif decide (t5b < (1 : Int)) then true else decide (t5b > (64 : Int)))) || (!(!(bif decide (t5b < (1 : Int)) then true else decide (t5b > (64 : Int))))))) <|
 chk (bif bif decide (t5b < (1 : Int)) then true else decide (t5b > (64 : Int)) then true else !(bif decide (t5b < (1 : Int)) then true else decide (t5b > (64 : Int)))) <|
 chk (bif bif decide (t5b < (1 : Int)) then true else decide (t5b > (64 : Int)) then true else true) <|
 let x33 : Bool := bif bif decide (t5b < (1 : Int)) then true else decide (t5b > (64 : Int)) then true else (t5b == (p0.length : Int))
 chk (((!x33) || (!(!x33)))) <|
 chk (((!x33) || (!(!x33)))) <|
 chk (((!x33) || (!(!x33)))) <|
 chk (((decide ((0 : Int) ≤ IntKind.i64.wrap (t5b + (1 : Int)))) || (!(!x33)))) <|
 chk (((decide (IntKind.i64.wrap (t5b + (1 : Int)) ≤ (p0.length : Int))) || (!(!x33)))) <|
 chk (((!x33) || (!(!x33)))) <|
 chk ((((ref07_DNS N (cutL p0 ((IntKind.i64.wrap (t5b + (1 : Int))).toNat) p0.length)).isSome) || (!(!x33)))) <|
 let r39 := (ref07_DNS N (cutL p0 ((IntKind.i64.wrap (t5b + (1 : Int))).toNat) p0.length)).getD default
 chk (((!x33) || (!(!x33)))) <|
 chk (bif x33 then true else !x33) <|
 chk (bif x33 then true else true) <|
 chk (((!(bif x33 then true else !r39)) || (!(!(bif x33 then true else !r39))))) <|
 chk (((decide ((0 : Int) < (p0.length : Int))) || (!(!(bif x33 then true else !r39))))) <|
 chk (((!(bif x33 then true else !r39)) || (!(!(bif x33 then true else !r39))))) <|
 chk (bif bif x33 then true else !r39 then true else !(bif x33 then true else !r39)) <|
 chk (bif bif x33 then true else !r39 then true else true) <|
 let x46 : Bool := bif bif x33 then true else !r39 then true else (((p0.getD 0 0).toNat : Int) == (46 : Int))
 chk (((!x46) || (!(!x46)))) <|
 chk (((!x46) || (!(!x46)))) <|
 chk (((!x46) || (!(!x46)))) <|
 chk (((decide ((0 : Int) ≤ IntKind.i64.wrap (t5b - (1 : Int)))) || (!(!x46)))) <|
 chk (((decide (IntKind.i64.wrap (t5b - (1 : Int)) < (p0.length : Int))) || (!(!x46)))) <|
 chk (((!x46) || (!(!x46)))) <|
 let x52 : Bool := (((p0.getD ((IntKind.i64.wrap (t5b - (1 : Int))).toNat) 0).toNat : Int) == (46 : Int))
 chk (bif x46 then true else !x46) <|
 chk (bif x46 then true else true) <|
 bif bif x46 then true else x52 then (some (([] : Bs), ([] : Bs), false))
 else (iterG (X := Int) (Y := Unit) (fun t6c k3 x4 =>
 bif decide (t6c < t5b) then (chk (decide ((0 : Int) ≤ t6c)) <|
 chk (decide (t6c < (p0.length : Int))) <|
 callO (ref01_Alnum N ((p0.getD t6c.toNat 0).toNat : Int)) fun r62 =>
 chk (((!r62) || (!(!r62)))) <|
 chk (((!r62) || (!(!r62)))) <|
 chk (((decide ((0 : Int) ≤ t6c)) || (!(!r62)))) <|
 chk (((decide (t6c < (p0.length : Int))) || (!(!r62)))) <|
 chk (((!r62) || (!(!r62)))) <|
 chk ((((ref01_Among N ((p0.getD t6c.toNat 0).toNat : Int) ([33, 35, 36, 37, 38, 39, 42, 43, 45, 47, 61, 63, 94, 95, 96, 123, 124, 125, 126, 46] : Bs)).isSome) || (!(!r62)))) <|
 let r68 := (ref01_Among N ((p0.getD t6c.toNat 0).toNat : Int) ([33, 35, 36, 37, 38, 39, 42, 43, 45, 47, 61, 63, 94, 95, 96, 123, 124, 125, 126, 46] : Bs)).getD default
 chk (((!r62) || (!(!r62)))) <|
 chk (bif !r62 then !r62 else true) <|
 chk (bif !r62 then true else true) <|
 chk (((!(bif !r62 then !r68 else false)) || (!(!(bif !r62 then !r68 else false))))) <|
 chk (((!(bif !r62 then !r68 else false)) || (!(!(bif !r62 then !r68 else false))))) <|
 chk (((decide ((0 : Int) ≤ t6c)) || (!(!(bif !r62 then !r68 else false))))) <|
 chk (((decide (t6c < (p0.length : Int))) || (!(!(bif !r62 then !r68 else false))))) <|
 chk (((!(bif !r62 then !r68 else false)) || (!(!(bif !r62 then !r68 else false))))) <|
 chk (((!(bif !r62 then !r68 else false)) || (!(!(bif !r62 then !r68 else false))))) <|
 chk ((((!(bif !r62 then !r68 else false)) && (((p0.getD t6c.toNat 0).toNat : Int) == (46 : Int))) || (!((!(bif !r62 then !r68 else false)) && (((p0.getD t6c.toNat 0).toNat : Int) == (46 : Int)))))) <|
 chk ((((!(bif !r62 then !r68 else false)) && (((p0.getD t6c.toNat 0).toNat : Int) == (46 : Int))) || (!((!(bif !r62 then !r68 else false)) && (((p0.getD t6c.toNat 0).toNat : Int) == (46 : Int)))))) <|
 chk ((((!(bif !r62 then !r68 else false)) && (((p0.getD t6c.toNat 0).toNat : Int) == (46 : Int))) || (!((!(bif !r62 then !r68 else false)) && (((p0.getD t6c.toNat 0).toNat : Int) == (46 : Int)))))) <|
 chk (((decide ((0 : Int) ≤ IntKind.i64.wrap (t6c + (1 : Int)))) || (!((!(bif !r62 then !r68 else false)) && (((p0.getD t6c.toNat 0).toNat : Int) == (46 : Int)))))) <|
 chk (((decide (IntKind.i64.wrap (t6c + (1 : Int)) < (p0.length : Int))) || (!((!(bif !r62 then !r68 else false)) && (((p0.getD t6c.toNat 0).toNat : Int) == (46 : Int)))))) <|
 chk ((((!(bif !r62 then !r68 else false)) && (((p0.getD t6c.toNat 0).toNat : Int) == (46 : Int))) || (!((!(bif !r62 then !r68 else false)) && (((p0.getD t6c.toNat 0).toNat : Int) == (46 : Int)))))) <|
 let x81 : Bool := (((p0.getD ((IntKind.i64.wrap (t6c + (1 : Int))).toNat) 0).toNat : Int) == (46 : Int))
 chk (((!(bif !r62 then !r68 else false)) || (!(!(bif !r62 then !r68 else false))))) <|
 chk (((bif (((p0.getD t6c.toNat 0).toNat : Int) == (46 : Int)) then ((!(bif !r62 then !r68 else false)) && (((p0.getD t6c.toNat 0).toNat : Int) == (46 : Int))) else true) || (!(!(bif !r62 then !r68 else false))))) <|
 chk (((bif (((p0.getD t6c.toNat 0).toNat : Int) == (46 : Int)) then true else true) || (!(!(bif !r62 then !r68 else false))))) <|
 let x82 : Bool := bif (((p0.getD t6c.toNat 0).toNat : Int) == (46 : Int)) then x81 else false
 chk (bif bif !r62 then !r68 else false then true else !(bif !r62 then !r68 else false)) <|
 chk (bif bif !r62 then !r68 else false then true else true) <|
 bif bif bif !r62 then !r68 else false then true else x82 then (some (([] : Bs), ([] : Bs), false))
 else (k3 (IntKind.i64.wrap (t6c + (1 : Int)))))
 else (x4 ()))
 N 0 (fun _ =>
 chk (decide ((0 : Int) ≤ t5b)) <|
 chk (decide (t5b ≤ (p0.length : Int))) <|
 chk (decide ((0 : Int) ≤ IntKind.i64.wrap (t5b + (1 : Int)))) <|
 chk (decide (IntKind.i64.wrap (t5b + (1 : Int)) ≤ (p0.length : Int))) <|
 some (cutL p0 0 t5b.toNat, cutL p0 ((IntKind.i64.wrap (t5b + (1 : Int))).toNat) p0.length, true)))))

-- certpath/certpathref07.Mail
abbrev ref07_Mail_O : Type := Bool
def ref07_Mail (N : Nat) (p0 : Bs) : Option ref07_Mail_O :=
 callO (ref07_parts N p0) fun r8 =>
 some r8.2.2

-- certpath/certpathref07.MailBase
abbrev ref07_MailBase_O : Type := Bool
def ref07_MailBase (N : Nat) (p0 : Bs) : Option ref07_MailBase_O :=
 callO (ref07_Mail N p0) fun r4 =>
 chk (((!r4) || (!(!r4)))) <|
 chk ((((ref07_DNS N p0).isSome) || (!(!r4)))) <|
 let r7 := (ref07_DNS N p0).getD default
 chk (bif r4 then true else !r4) <|
 chk (bif r4 then true else true) <|
 chk (((!(bif r4 then true else r7)) || (!(!(bif r4 then true else r7))))) <|
 chk (((!(bif r4 then true else r7)) || (!(!(bif r4 then true else r7))))) <|
 chk (((!(bif r4 then true else r7)) || (!(!(bif r4 then true else r7))))) <|
 chk ((((!(bif r4 then true else r7)) && (decide ((p0.length : Int) ≤ (128 : Int)))) || (!((!(bif r4 then true else r7)) && (decide ((p0.length : Int) ≤ (128 : Int))))))) <|
 chk ((((!(bif r4 then true else r7)) && (decide ((p0.length : Int) ≤ (128 : Int)))) || (!((!(bif r4 then true else r7)) && (decide ((p0.length : Int) ≤ (128 : Int))))))) <|
 chk (((!(bif r4 then true else r7)) || (!(!(bif r4 then true else r7))))) <|
 chk (((bif decide ((p0.length : Int) ≤ (128 : Int)) then ((!(bif r4 then true else r7)) && (decide ((p0.length : Int) ≤ (128 : Int)))) else true) || (!(!(bif r4 then true else r7))))) <|
 chk (((bif decide ((p0.length : Int) ≤ (128 : Int)) then true else true) || (!(!(bif r4 then true else r7))))) <|
 let x17 : Bool := bif decide ((p0.length : Int) ≤ (128 : Int)) then decide ((p0.length : Int) > (1 : Int)) else false
 chk (((!(bif r4 then true else r7)) || (!(!(bif r4 then true else r7))))) <|
 chk ((((!(bif r4 then true else r7)) && x17) || (!((!(bif r4 then true else r7)) && x17)))) <|
 chk (((decide ((0 : Int) < (p0.length : Int))) || (!((!(bif r4 then true else r7)) && x17)))) <|
 chk ((((!(bif r4 then true else r7)) && x17) || (!((!(bif r4 then true else r7)) && x17)))) <|
 chk (((!(bif r4 then true else r7)) || (!(!(bif r4 then true else r7))))) <|
 chk (((bif x17 then ((!(bif r4 then true else r7)) && x17) else true) || (!(!(bif r4 then true else r7))))) <|
 chk (((bif x17 then true else true) || (!(!(bif r4 then true else r7))))) <|
 chk (((!(bif r4 then true else r7)) || (!(!(bif r4 then true else r7))))) <|
 chk ((((!(bif r4 then true else r7)) && (bif x17 then (((p0.getD 0 0).toNat : Int) == (46 : Int)) else false)) || (!((!(bif r4 then true else r7)) && (bif x17 then (((p0.getD 0 0).toNat : Int) == (46 : Int)) else false))))) <|
 chk (((decide ((1 : Int) ≤ (p0.length : Int))) || (!((!(bif r4 then true else r7)) && (bif x17 then (((p0.getD 0 0).toNat : Int) == (46 : Int)) else false))))) <|
 chk ((((!(bif r4 then true else r7)) && (bif x17 then (((p0.getD 0 0).toNat : Int) == (46 : Int)) else false)) || (!((!(bif r4 then true else r7)) && (bif x17 then (((p0.getD 0 0).toNat : Int) == (46 : Int)) else false))))) <|
 chk ((((ref07_DNS N (cutL p0 1 p0.length)).isSome) || (!((!(bif r4 then true else r7)) && (bif x17 then (((p0.getD 0 0).toNat : Int) == (46 : Int)) else false))))) <|
 let r26 := (ref07_DNS N (cutL p0 1 p0.length)).getD default
 chk (((!(bif r4 then true else r7)) || (!(!(bif r4 then true else r7))))) <|
 chk (((bif bif x17 then (((p0.getD 0 0).toNat : Int) == (46 : Int)) else false then ((!(bif r4 then true else r7)) && (bif x17 then (((p0.getD 0 0).toNat : Int) == (46 : Int)) else false)) else true) || (!(!(bif r4 then true else r7))))) <|
 chk (((bif bif x17 then (((p0.getD 0 0).toNat : Int) == (46 : Int)) else false then true else true) || (!(!(bif r4 then true else r7))))) <|
 let x27 : Bool := bif bif x17 then (((p0.getD 0 0).toNat : Int) == (46 : Int)) else false then r26 else false
 chk (bif bif r4 then true else r7 then true else !(bif r4 then true else r7)) <|
 chk (bif bif r4 then true else r7 then true else true) <|
 some (bif bif r4 then true else r7 then true else x27)

-- certpath/certpathref07.Base
abbrev ref07_Base_O : Type := Bool
def ref07_Base (N : Nat) (p0 : Bs) : Option ref07_Base_O :=
 chk (((!(p0 == ([] : Bs))) || (!(!(p0 == ([] : Bs)))))) <|
 chk ((((ref07_DNS N p0).isSome) || (!(!(p0 == ([] : Bs)))))) <|
 let r7 := (ref07_DNS N p0).getD default
 chk (bif (p0 == ([] : Bs)) then true else !(p0 == ([] : Bs))) <|
 chk (bif (p0 == ([] : Bs)) then true else true) <|
 some (bif (p0 == ([] : Bs)) then true else r7)

-- certpath/certpathref07.Pattern
abbrev ref07_Pattern_O : Type := Bool
def ref07_Pattern (N : Nat) (p0 : Bs) : Option ref07_Pattern_O :=
 callO (ref07_DNS N p0) fun r4 =>
 chk (((!r4) || (!(!r4)))) <|
 chk (((!r4) || (!(!r4)))) <|
 chk (((!r4) || (!(!r4)))) <|
 chk ((((!r4) && (decide ((p0.length : Int) ≤ (128 : Int)))) || (!((!r4) && (decide ((p0.length : Int) ≤ (128 : Int))))))) <|
 chk ((((!r4) && (decide ((p0.length : Int) ≤ (128 : Int)))) || (!((!r4) && (decide ((p0.length : Int) ≤ (128 : Int))))))) <|
 chk (((!r4) || (!(!r4)))) <|
 chk (((bif decide ((p0.length : Int) ≤ (128 : Int)) then ((!r4) && (decide ((p0.length : Int) ≤ (128 : Int)))) else true) || (!(!r4)))) <|
 chk (((bif decide ((p0.length : Int) ≤ (128 : Int)) then true else true) || (!(!r4)))) <|
 let x13 : Bool := bif decide ((p0.length : Int) ≤ (128 : Int)) then decide ((p0.length : Int) > (2 : Int)) else false
 chk (((!r4) || (!(!r4)))) <|
 chk ((((!r4) && x13) || (!((!r4) && x13)))) <|
 chk (((decide ((2 : Int) ≤ (p0.length : Int))) || (!((!r4) && x13)))) <|
 chk ((((!r4) && x13) || (!((!r4) && x13)))) <|
 chk (((!r4) || (!(!r4)))) <|
 chk (((bif x13 then ((!r4) && x13) else true) || (!(!r4)))) <|
 chk (((bif x13 then true else true) || (!(!r4)))) <|
 chk (((!r4) || (!(!r4)))) <|
 chk ((((!r4) && (bif x13 then ((cutL p0 0 2) == ([42, 46] : Bs)) else false)) || (!((!r4) && (bif x13 then ((cutL p0 0 2) == ([42, 46] : Bs)) else false))))) <|
 chk (((decide ((2 : Int) ≤ (p0.length : Int))) || (!((!r4) && (bif x13 then ((cutL p0 0 2) == ([42, 46] : Bs)) else false))))) <|
 chk ((((!r4) && (bif x13 then ((cutL p0 0 2) == ([42, 46] : Bs)) else false)) || (!((!r4) && (bif x13 then ((cutL p0 0 2) == ([42, 46] : Bs)) else false))))) <|
 chk ((((ref07_DNS N (cutL p0 2 p0.length)).isSome) || (!((!r4) && (bif x13 then ((cutL p0 0 2) == ([42, 46] : Bs)) else false))))) <|
 let r22 := (ref07_DNS N (cutL p0 2 p0.length)).getD default
 chk (((!r4) || (!(!r4)))) <|
 chk (((bif bif x13 then ((cutL p0 0 2) == ([42, 46] : Bs)) else false then ((!r4) && (bif x13 then ((cutL p0 0 2) == ([42, 46] : Bs)) else false)) else true) || (!(!r4)))) <|
 chk (((bif bif x13 then ((cutL p0 0 2) == ([42, 46] : Bs)) else false then true else true) || (!(!r4)))) <|
 let x23 : Bool := bif bif x13 then ((cutL p0 0 2) == ([42, 46] : Bs)) else false then r22 else false
 chk (((!r4) || (!(!r4)))) <|
 chk ((((!r4) && x23) || (!((!r4) && x23)))) <|
 chk ((((ref07_Split N p0 46).isSome) || (!((!r4) && x23)))) <|
 let r26 := (ref07_Split N p0 46).getD default
 chk ((((!r4) && x23) || (!((!r4) && x23)))) <|
 chk ((((!r4) && x23) || (!((!r4) && x23)))) <|
 chk (((!r4) || (!(!r4)))) <|
 chk (((bif x23 then ((!r4) && x23) else true) || (!(!r4)))) <|
 chk (((bif x23 then true else true) || (!(!r4)))) <|
 chk (bif r4 then true else !r4) <|
 chk (bif r4 then true else true) <|
 let x30 : Bool := bif r4 then true else bif x23 then decide ((r26.length : Int) > (2 : Int)) else false
 some x30

-- certpath/certpathref07.Range
abbrev ref07_Range_O : Type := Bool
def ref07_Range (N : Nat) (p0 : Bs) : Option ref07_Range_O :=
 chk ((((p0.length : Int) != (8 : Int)) || (!((p0.length : Int) != (8 : Int))))) <|
 chk ((((p0.length : Int) != (8 : Int)) || (!((p0.length : Int) != (8 : Int))))) <|
 chk (bif ((p0.length : Int) != (8 : Int)) then ((p0.length : Int) != (8 : Int)) else true) <|
 chk (bif ((p0.length : Int) != (8 : Int)) then true else true) <|
 let x14 : Bool := bif ((p0.length : Int) != (8 : Int)) then ((p0.length : Int) != (32 : Int)) else false
 bif x14 then (some false)
 else (iterG (X := Bool × Int) (Y := Unit) (U2 fun t4a t5a k1 x2 =>
 let x20 : Int := IntKind.i64.wrap ((8 : Int) * (IntKind.i64.wrap ((p0.length : Int).tdiv 2)))
 bif decide (t5a < x20) then (let x28 : Int := IntKind.i64.wrap ((IntKind.i64.wrap ((p0.length : Int).tdiv 2)) + (IntKind.i64.wrap (t5a.tdiv 8)))
 chk (decide ((0 : Int) ≤ x28)) <|
 chk (decide (x28 < (p0.length : Int))) <|
 chk (decide ((0 : Int) ≤ IntKind.i64.wrap ((7 : Int) - (t5a.tmod 8)))) <|
 let x33 : Int := ((p0.getD x28.toNat 0).toNat : Int).fdiv (2 ^ (min (IntKind.i64.wrap ((7 : Int) - (t5a.tmod 8))).toNat 8))
 chk (bif ((x33.tmod 2) == (1 : Int)) then ((x33.tmod 2) == (1 : Int)) else true) <|
 chk (bif ((x33.tmod 2) == (1 : Int)) then true else true) <|
 chk (((!(bif ((x33.tmod 2) == (1 : Int)) then t4a else false)) || (!(!(bif ((x33.tmod 2) == (1 : Int)) then t4a else false))))) <|
 chk (((!(bif ((x33.tmod 2) == (1 : Int)) then t4a else false)) || (!(!(bif ((x33.tmod 2) == (1 : Int)) then t4a else false))))) <|
 chk ((((!(bif ((x33.tmod 2) == (1 : Int)) then t4a else false)) && (!((x33.tmod 2) == (1 : Int)))) || (!((!(bif ((x33.tmod 2) == (1 : Int)) then t4a else false)) && (!((x33.tmod 2) == (1 : Int))))))) <|
 chk ((((!(bif ((x33.tmod 2) == (1 : Int)) then t4a else false)) && (!((x33.tmod 2) == (1 : Int)))) || (!((!(bif ((x33.tmod 2) == (1 : Int)) then t4a else false)) && (!((x33.tmod 2) == (1 : Int))))))) <|
 chk ((((!(bif ((x33.tmod 2) == (1 : Int)) then t4a else false)) && (!((x33.tmod 2) == (1 : Int)))) || (!((!(bif ((x33.tmod 2) == (1 : Int)) then t4a else false)) && (!((x33.tmod 2) == (1 : Int))))))) <|
 chk (((decide ((0 : Int) ≤ IntKind.i64.wrap (t5a.tdiv 8))) || (!((!(bif ((x33.tmod 2) == (1 : Int)) then t4a else false)) && (!((x33.tmod 2) == (1 : Int))))))) <|
 chk (((decide (IntKind.i64.wrap (t5a.tdiv 8) < (p0.length : Int))) || (!((!(bif ((x33.tmod 2) == (1 : Int)) then t4a else false)) && (!((x33.tmod 2) == (1 : Int))))))) <|
 chk ((((!(bif ((x33.tmod 2) == (1 : Int)) then t4a else false)) && (!((x33.tmod 2) == (1 : Int)))) || (!((!(bif ((x33.tmod 2) == (1 : Int)) then t4a else false)) && (!((x33.tmod 2) == (1 : Int))))))) <|
 chk ((((!(bif ((x33.tmod 2) == (1 : Int)) then t4a else false)) && (!((x33.tmod 2) == (1 : Int)))) || (!((!(bif ((x33.tmod 2) == (1 : Int)) then t4a else false)) && (!((x33.tmod 2) == (1 : Int))))))) <|
 chk ((((!(bif ((x33.tmod 2) == (1 : Int)) then t4a else false)) && (!((x33.tmod 2) == (1 : Int)))) || (!((!(bif ((x33.tmod 2) == (1 : Int)) then t4a else false)) && (!((x33.tmod 2) == (1 : Int))))))) <|
 chk ((((!(bif ((x33.tmod 2) == (1 : Int)) then t4a else false)) && (!((x33.tmod 2) == (1 : Int)))) || (!((!(bif ((x33.tmod 2) == (1 : Int)) then t4a else false)) && (!((x33.tmod 2) == (1 : Int))))))) <|
 chk (((decide ((0 : Int) ≤ IntKind.i64.wrap ((7 : Int) - (t5a.tmod 8)))) || (!((!(bif ((x33.tmod 2) == (1 : Int)) then t4a else false)) && (!((x33.tmod 2) == (1 : Int))))))) <|
 let x51 : Int := ((p0.getD ((IntKind.i64.wrap (t5a.tdiv 8)).toNat) 0).toNat : Int).fdiv (2 ^ (min (IntKind.i64.wrap ((7 : Int) - (t5a.tmod 8))).toNat 8))
 chk ((((!(bif ((x33.tmod 2) == (1 : Int)) then t4a else false)) && (!((x33.tmod 2) == (1 : Int)))) || (!((!(bif ((x33.tmod 2) == (1 : Int)) then t4a else false)) && (!((x33.tmod 2) == (1 : Int))))))) <|
 chk ((((!(bif ((x33.tmod 2) == (1 : Int)) then t4a else false)) && (!((x33.tmod 2) == (1 : Int)))) || (!((!(bif ((x33.tmod 2) == (1 : Int)) then t4a else false)) && (!((x33.tmod 2) == (1 : Int))))))) <|
 chk (((!(bif ((x33.tmod 2) == (1 : Int)) then t4a else false)) || (!(!(bif ((x33.tmod 2) == (1 : Int)) then t4a else false))))) <|
 chk (((bif !((x33.tmod 2) == (1 : Int)) then ((!(bif ((x33.tmod 2) == (1 : Int)) then t4a else false)) && (!((x33.tmod 2) == (1 : Int)))) else true) || (!(!(bif ((x33.tmod 2) == (1 : Int)) then t4a else false))))) <|
 chk (((bif !((x33.tmod 2) == (1 : Int)) then true else true) || (!(!(bif ((x33.tmod 2) == (1 : Int)) then t4a else false))))) <|
 let x54 : Bool := bif !((x33.tmod 2) == (1 : Int)) then ((x51.tmod 2) == (1 : Int)) else false
 chk (bif bif ((x33.tmod 2) == (1 : Int)) then t4a else false then true else !(bif ((x33.tmod 2) == (1 : Int)) then t4a else false)) <|
 chk (bif bif ((x33.tmod 2) == (1 : Int)) then t4a else false then true else true) <|
 let x55 : Bool := bif bif ((x33.tmod 2) == (1 : Int)) then t4a else false then true else x54
 bif x55 then (some false)
 else (chk (((!t4a) || (!(!t4a)))) <|
 chk (bif t4a then true else !t4a) <|
 chk (bif t4a then true else true) <|
 k1 (bif t4a then true else !((x33.tmod 2) == (1 : Int)), IntKind.i64.wrap (t5a + (1 : Int)))))
 else (x2 ()))
 N (false, 0) (fun _ =>
 some true))

-- certpath/certpathref07.Address
abbrev ref07_Address_O : Type := Bool
def ref07_Address (N : Nat) (p0 : Bs) : Option ref07_Address_O :=
 chk (((!((p0.length : Int) == (4 : Int))) || (!(!((p0.length : Int) == (4 : Int)))))) <|
 chk (((!((p0.length : Int) == (4 : Int))) || (!(!((p0.length : Int) == (4 : Int)))))) <|
 chk (bif ((p0.length : Int) == (4 : Int)) then true else !((p0.length : Int) == (4 : Int))) <|
 chk (bif ((p0.length : Int) == (4 : Int)) then true else true) <|
 let x10 : Bool := bif ((p0.length : Int) == (4 : Int)) then true else ((p0.length : Int) == (16 : Int))
 some x10

-- certpath/certpathref07.CheckGeneral
abbrev ref07_CheckGeneral_O : Type := Int
def ref07_CheckGeneral (N : Nat) (p0 : Yq3) (p1 : Bool) : Option ref07_CheckGeneral_O :=
 letJ (α := Bool × Int × Bs × List Yq2) (fun j1 =>
 bif (p0.1 == (1 : Int)) then (chk ((p1 || (!p1))) <|
 chk ((p1 || (!p1))) <|
 chk ((((ref07_MailBase N p0.2.1).isSome) || (!p1))) <|
 let r14 := (ref07_MailBase N p0.2.1).getD default
 chk (bif p1 then p1 else true) <|
 chk (bif p1 then true else true) <|
 chk (((!(bif p1 then r14 else false)) || (!(!(bif p1 then r14 else false))))) <|
 chk (((!(bif p1 then r14 else false)) || (!(!(bif p1 then r14 else false))))) <|
 chk ((((!(bif p1 then r14 else false)) && (!p1)) || (!((!(bif p1 then r14 else false)) && (!p1))))) <|
 chk ((((!(bif p1 then r14 else false)) && (!p1)) || (!((!(bif p1 then r14 else false)) && (!p1))))) <|
 chk ((((ref07_Mail N p0.2.1).isSome) || (!((!(bif p1 then r14 else false)) && (!p1))))) <|
 let r22 := (ref07_Mail N p0.2.1).getD default
 chk (((!(bif p1 then r14 else false)) || (!(!(bif p1 then r14 else false))))) <|
 chk (((bif !p1 then ((!(bif p1 then r14 else false)) && (!p1)) else true) || (!(!(bif p1 then r14 else false))))) <|
 chk (((bif !p1 then true else true) || (!(!(bif p1 then r14 else false))))) <|
 chk (bif bif p1 then r14 else false then true else !(bif p1 then r14 else false)) <|
 chk (bif bif p1 then r14 else false then true else true) <|
 let x24 : Bool := bif bif p1 then r14 else false then true else bif !p1 then r22 else false
 j1 (x24, p0.1, p0.2.1, p0.2.2))
 else (bif (p0.1 == (2 : Int)) then (chk ((p1 || (!p1))) <|
 chk ((p1 || (!p1))) <|
 chk ((((ref07_Base N p0.2.1).isSome) || (!p1))) <|
 let r31 := (ref07_Base N p0.2.1).getD default
 chk (bif p1 then p1 else true) <|
 chk (bif p1 then true else true) <|
 chk (((!(bif p1 then r31 else false)) || (!(!(bif p1 then r31 else false))))) <|
 chk (((!(bif p1 then r31 else false)) || (!(!(bif p1 then r31 else false))))) <|
 chk ((((!(bif p1 then r31 else false)) && (!p1)) || (!((!(bif p1 then r31 else false)) && (!p1))))) <|
 chk ((((!(bif p1 then r31 else false)) && (!p1)) || (!((!(bif p1 then r31 else false)) && (!p1))))) <|
 chk ((((ref07_Pattern N p0.2.1).isSome) || (!((!(bif p1 then r31 else false)) && (!p1))))) <|
 let r39 := (ref07_Pattern N p0.2.1).getD default
 chk (((!(bif p1 then r31 else false)) || (!(!(bif p1 then r31 else false))))) <|
 chk (((bif !p1 then ((!(bif p1 then r31 else false)) && (!p1)) else true) || (!(!(bif p1 then r31 else false))))) <|
 chk (((bif !p1 then true else true) || (!(!(bif p1 then r31 else false))))) <|
 chk (bif bif p1 then r31 else false then true else !(bif p1 then r31 else false)) <|
 chk (bif bif p1 then r31 else false then true else true) <|
 let x41 : Bool := bif bif p1 then r31 else false then true else bif !p1 then r39 else false
 j1 (x41, p0.1, p0.2.1, p0.2.2))
 else (bif (p0.1 == (7 : Int)) then (chk ((p1 || (!p1))) <|
 chk ((p1 || (!p1))) <|
 chk ((((ref07_Range N p0.2.1).isSome) || (!p1))) <|
 let r48 := (ref07_Range N p0.2.1).getD default
 chk (bif p1 then p1 else true) <|
 chk (bif p1 then true else true) <|
 chk (((!(bif p1 then r48 else false)) || (!(!(bif p1 then r48 else false))))) <|
 chk (((!(bif p1 then r48 else false)) || (!(!(bif p1 then r48 else false))))) <|
 chk ((((!(bif p1 then r48 else false)) && (!p1)) || (!((!(bif p1 then r48 else false)) && (!p1))))) <|
 chk ((((!(bif p1 then r48 else false)) && (!p1)) || (!((!(bif p1 then r48 else false)) && (!p1))))) <|
 chk ((((ref07_Address N p0.2.1).isSome) || (!((!(bif p1 then r48 else false)) && (!p1))))) <|
 let r56 := (ref07_Address N p0.2.1).getD default
 chk (((!(bif p1 then r48 else false)) || (!(!(bif p1 then r48 else false))))) <|
 chk (((bif !p1 then ((!(bif p1 then r48 else false)) && (!p1)) else true) || (!(!(bif p1 then r48 else false))))) <|
 chk (((bif !p1 then true else true) || (!(!(bif p1 then r48 else false))))) <|
 chk (bif bif p1 then r48 else false then true else !(bif p1 then r48 else false)) <|
 chk (bif bif p1 then r48 else false then true else true) <|
 let x58 : Bool := bif bif p1 then r48 else false then true else bif !p1 then r56 else false
 j1 (x58, p0.1, p0.2.1, p0.2.2))
 else (bif (p0.1 == (4 : Int)) then (bif !(p0.2.1 == ([] : Bs)) then (some 14)
 else (callO (ref07_CheckName N p0.2.2) fun r66 =>
 some r66))
 else (j1 (false, p0.1, p0.2.1, p0.2.2))))))
 (U4 fun t5a b33280_0a b33280_1a b33280_2a =>
 chk (((!(!t5a)) || (!(!(!t5a))))) <|
 chk (((!(!t5a)) || (!(!(!t5a))))) <|
 chk (((!(!t5a)) || (!(!(!t5a))))) <|
 chk (((!(!t5a)) || (!(!(!t5a))))) <|
 chk (bif !t5a then true else !(!t5a)) <|
 chk (bif !t5a then true else true) <|
 bif bif !t5a then true else decide ((b33280_2a.length : Int) > (0 : Int)) then (some 14)
 else (some 0))

-- certpath/certpathref14.checkNames
abbrev ref14_checkNames_O : Type := Int
def ref14_checkNames (N : Nat) (p0 : List Yq3) : Option ref14_checkNames_O :=
 bif decide ((p0.length : Int) > (16 : Int)) then (some 2)
 else (iterG (X := Int) (Y := Unit) (fun t11a k1 x2 =>
 bif decide (t11a < (p0.length : Int)) then (chk (decide ((0 : Int) ≤ t11a)) <|
 chk (decide (t11a < (p0.length : Int))) <|
 callO (ref07_CheckGeneral N (p0.getD t11a.toNat (0, ([] : Bs), ([] : List Yq2))) false) fun r16 =>
 bif (r16 != (0 : Int)) then (some r16)
 else (k1 (IntKind.i64.wrap (t11a + (1 : Int)))))
 else (x2 ()))
 N 0 (fun _ =>
 some 0))

-- certpath/certpathref14.checkScope
abbrev ref14_checkScope_O : Type := Int
def ref14_checkScope (N : Nat) (p0 : Yq7) : Option ref14_checkScope_O :=
 bif !p0.2.2.2.2.2.2.2.2.1 then (callO (ref14_zeroScope N (p0.2.2.2.2.2.2.2.2.2.1, p0.2.2.2.2.2.2.2.2.2.2.1, p0.2.2.2.2.2.2.2.2.2.2.2.1, p0.2.2.2.2.2.2.2.2.2.2.2.2.1, p0.2.2.2.2.2.2.2.2.2.2.2.2.2.1)) fun r10 =>
 bif !r10 then (some 7)
 else (some 0))
 else (chk ((p0.2.2.2.2.2.2.2.2.2.2.1 || (!p0.2.2.2.2.2.2.2.2.2.2.1))) <|
 chk (bif p0.2.2.2.2.2.2.2.2.2.2.1 then p0.2.2.2.2.2.2.2.2.2.2.1 else true) <|
 chk (bif p0.2.2.2.2.2.2.2.2.2.2.1 then true else true) <|
 let x17 : Bool := bif p0.2.2.2.2.2.2.2.2.2.2.1 then p0.2.2.2.2.2.2.2.2.2.2.2.1 else false
 chk (((!x17) || (!(!x17)))) <|
 chk ((((ref14_zeroScope N (p0.2.2.2.2.2.2.2.2.2.1, p0.2.2.2.2.2.2.2.2.2.2.1, p0.2.2.2.2.2.2.2.2.2.2.2.1, p0.2.2.2.2.2.2.2.2.2.2.2.2.1, p0.2.2.2.2.2.2.2.2.2.2.2.2.2.1)).isSome) || (!(!x17)))) <|
 let r20 := (ref14_zeroScope N (p0.2.2.2.2.2.2.2.2.2.1, p0.2.2.2.2.2.2.2.2.2.2.1, p0.2.2.2.2.2.2.2.2.2.2.2.1, p0.2.2.2.2.2.2.2.2.2.2.2.2.1, p0.2.2.2.2.2.2.2.2.2.2.2.2.2.1)).getD default
 chk (bif x17 then true else !x17) <|
 chk (bif x17 then true else true) <|
 bif bif x17 then true else r20 then (some 7)
 else (bif ((bitsI .andNot .i64 p0.2.2.2.2.2.2.2.2.2.2.2.2.1 510) != (0 : Int)) then (some 1)
 else (callO (ref14_checkNames N p0.2.2.2.2.2.2.2.2.2.1) fun r28 =>
 some r28)))

-- certpath/certpathref14.CheckPoints
abbrev ref14_CheckPoints_O : Type := Int
def ref14_CheckPoints (N : Nat) (p0 : List Yq5) : Option ref14_CheckPoints_O :=
 bif decide ((p0.length : Int) > (4 : Int)) then (some 2)
 else (iterG (X := Int) (Y := Unit) (fun t12a k1 x2 =>
 bif decide (t12a < (p0.length : Int)) then (chk (decide ((0 : Int) ≤ t12a)) <|
 chk (decide (t12a < (p0.length : Int))) <|
 let x18 : Int := (((p0.getD t12a.toNat (([] : List Yq3), 0, false, ([] : List Yq2))).1).length : Int)
 chk (((x18 == (0 : Int)) || (!(x18 == (0 : Int))))) <|
 let x22 : Bool := (p0.getD t12a.toNat (([] : List Yq3), 0, false, ([] : List Yq2))).2.2.1
 chk (((x18 == (0 : Int)) || (!(x18 == (0 : Int))))) <|
 chk (bif (x18 == (0 : Int)) then (x18 == (0 : Int)) else true) <|
 chk (bif (x18 == (0 : Int)) then true else true) <|
 chk (((!(bif (x18 == (0 : Int)) then !x22 else false)) || (!(!(bif (x18 == (0 : Int)) then !x22 else false))))) <|
 let x27 : Bool := (p0.getD t12a.toNat (([] : List Yq3), 0, false, ([] : List Yq2))).2.2.1
 chk (((!(bif (x18 == (0 : Int)) then !x22 else false)) || (!(!(bif (x18 == (0 : Int)) then !x22 else false))))) <|
 chk (((!(bif (x18 == (0 : Int)) then !x22 else false)) || (!(!(bif (x18 == (0 : Int)) then !x22 else false))))) <|
 chk ((((!(bif (x18 == (0 : Int)) then !x22 else false)) && (!x27)) || (!((!(bif (x18 == (0 : Int)) then !x22 else false)) && (!x27))))) <|
 chk ((((!(bif (x18 == (0 : Int)) then !x22 else false)) && (!x27)) || (!((!(bif (x18 == (0 : Int)) then !x22 else false)) && (!x27))))) <|
 chk ((((!(bif (x18 == (0 : Int)) then !x22 else false)) && (!x27)) || (!((!(bif (x18 == (0 : Int)) then !x22 else false)) && (!x27))))) <|
 let x33 : Int := (((p0.getD t12a.toNat (([] : List Yq3), 0, false, ([] : List Yq2))).2.2.2).length : Int)
 chk ((((!(bif (x18 == (0 : Int)) then !x22 else false)) && (!x27)) || (!((!(bif (x18 == (0 : Int)) then !x22 else false)) && (!x27))))) <|
 chk (((!(bif (x18 == (0 : Int)) then !x22 else false)) || (!(!(bif (x18 == (0 : Int)) then !x22 else false))))) <|
 chk (((bif !x27 then ((!(bif (x18 == (0 : Int)) then !x22 else false)) && (!x27)) else true) || (!(!(bif (x18 == (0 : Int)) then !x22 else false))))) <|
 chk (((bif !x27 then true else true) || (!(!(bif (x18 == (0 : Int)) then !x22 else false))))) <|
 chk (bif bif (x18 == (0 : Int)) then !x22 else false then true else !(bif (x18 == (0 : Int)) then !x22 else false)) <|
 chk (bif bif (x18 == (0 : Int)) then !x22 else false then true else true) <|
 let x36 : Bool := bif bif (x18 == (0 : Int)) then !x22 else false then true else bif !x27 then decide (x33 > (0 : Int)) else false
 bif x36 then (some 7)
 else (let x39 : Int := bitsI .andNot .i64 ((p0.getD t12a.toNat (([] : List Yq3), 0, false, ([] : List Yq2))).2.1) 510
 bif (x39 != (0 : Int)) then (some 1)
 else (callO (ref14_checkNames N ((p0.getD t12a.toNat (([] : List Yq3), 0, false, ([] : List Yq2))).1)) fun r43 =>
 bif (r43 != (0 : Int)) then (some r43)
 else (let x48 : Bool := (p0.getD t12a.toNat (([] : List Yq3), 0, false, ([] : List Yq2))).2.2.1
 bif x48 then (let x52 : Int := (((p0.getD t12a.toNat (([] : List Yq3), 0, false, ([] : List Yq2))).2.2.2).length : Int)
 bif (x52 == (0 : Int)) then (some 14)
 else (callO (ref07_CheckName N ((p0.getD t12a.toNat (([] : List Yq3), 0, false, ([] : List Yq2))).2.2.2)) fun r56 =>
 bif (r56 != (0 : Int)) then (some r56)
 else (k1 (IntKind.i64.wrap (t12a + (1 : Int))))))
 else (k1 (IntKind.i64.wrap (t12a + (1 : Int))))))))
 else (x2 ()))
 N 0 (fun _ =>
 some 0))

-- certpath/certpathref01.Lower
abbrev ref01_Lower_O : Type := Bs
def ref01_Lower (N : Nat) (p0 : Bs) : Option ref01_Lower_O :=
 chk (decide (p0.length ≤ 140737488355328)) <|
 iterG (X := Int × List Int) (Y := (List Int)) (U2 fun t9a l34304a k1 x2 =>
 let x10 : Bool := decide (t9a < ((List.map (fun (b : UInt8) => ((b.toNat : Int))) p0).length : Int))
 bif x10 then (chk (decide ((0 : Int) ≤ t9a)) <|
 chk (decide (t9a < (l34304a.length : Int))) <|
 chk (decide (t9a.toNat < l34304a.length)) <|
 chk (((decide ((l34304a.getD t9a.toNat 0) ≥ (65 : Int))) || (!(decide ((l34304a.getD t9a.toNat 0) ≥ (65 : Int)))))) <|
 chk (((decide ((l34304a.getD t9a.toNat 0) ≥ (65 : Int))) || (!(decide ((l34304a.getD t9a.toNat 0) ≥ (65 : Int)))))) <|
 chk (((decide ((0 : Int) ≤ t9a)) || (!(decide ((l34304a.getD t9a.toNat 0) ≥ (65 : Int)))))) <|
 chk (((decide (t9a < (l34304a.length : Int))) || (!(decide ((l34304a.getD t9a.toNat 0) ≥ (65 : Int)))))) <|
 chk (((decide ((l34304a.getD t9a.toNat 0) ≥ (65 : Int))) || (!(decide ((l34304a.getD t9a.toNat 0) ≥ (65 : Int)))))) <|
 chk (((decide (t9a.toNat < l34304a.length)) || (!(decide ((l34304a.getD t9a.toNat 0) ≥ (65 : Int)))))) <|
 chk (((decide ((l34304a.getD t9a.toNat 0) ≥ (65 : Int))) || (!(decide ((l34304a.getD t9a.toNat 0) ≥ (65 : Int)))))) <|
 chk (bif decide ((l34304a.getD t9a.toNat 0) ≥ (65 : Int)) then decide ((l34304a.getD t9a.toNat 0) ≥ (65 : Int)) else true) <|
 chk (bif decide ((l34304a.getD t9a.toNat 0) ≥ (65 : Int)) then true else true) <|
 let x23 : Bool := bif decide ((l34304a.getD t9a.toNat 0) ≥ (65 : Int)) then decide ((l34304a.getD t9a.toNat 0) ≤ (90 : Int)) else false
 bif x23 then (chk (decide ((0 : Int) ≤ t9a)) <|
 chk (decide (t9a < (l34304a.length : Int))) <|
 chk (decide (t9a.toNat < l34304a.length)) <|
 chk (decide ((0 : Int) ≤ t9a)) <|
 chk (decide (t9a < (l34304a.length : Int))) <|
 chk (decide (t9a.toNat < l34304a.length)) <|
 let y34304 : List Int := l34304a.set t9a.toNat (IntKind.u8.wrap ((l34304a.getD t9a.toNat 0) + (32 : Int)))
 k1 (IntKind.i64.wrap (t9a + (1 : Int)), y34304))
 else (k1 (IntKind.i64.wrap (t9a + (1 : Int)), l34304a)))
 else (x2 l34304a))
 N (0, List.map (fun (b : UInt8) => ((b.toNat : Int))) p0) (fun l34304b =>
 chk (List.all l34304b isByte) <|
 some (List.map byteOf l34304b))

-- certpath/certpathref01.Fold
abbrev ref01_Fold_O : Type := Bs
def ref01_Fold (N : Nat) (p0 : Bs) : Option ref01_Fold_O :=
 callO (ref01_Lower N p0) fun r6 =>
 iterG (X := Int × List Int) (Y := (List Int)) (U2 fun t4a l1000000a k1 x2 =>
 bif decide (t4a < (r6.length : Int)) then (chk (decide ((0 : Int) ≤ t4a)) <|
 chk (decide (t4a < (r6.length : Int))) <|
 chk (((!(((r6.getD t4a.toNat 0).toNat : Int) != (32 : Int))) || (!(!(((r6.getD t4a.toNat 0).toNat : Int) != (32 : Int)))))) <|
 chk (((!(((r6.getD t4a.toNat 0).toNat : Int) != (32 : Int))) || (!(!(((r6.getD t4a.toNat 0).toNat : Int) != (32 : Int)))))) <|
 chk (((!(((r6.getD t4a.toNat 0).toNat : Int) != (32 : Int))) || (!(!(((r6.getD t4a.toNat 0).toNat : Int) != (32 : Int)))))) <|
 chk ((((!(((r6.getD t4a.toNat 0).toNat : Int) != (32 : Int))) && (decide ((l1000000a.length : Int) > (0 : Int)))) || (!((!(((r6.getD t4a.toNat 0).toNat : Int) != (32 : Int))) && (decide ((l1000000a.length : Int) > (0 : Int))))))) <|
 chk ((((!(((r6.getD t4a.toNat 0).toNat : Int) != (32 : Int))) && (decide ((l1000000a.length : Int) > (0 : Int)))) || (!((!(((r6.getD t4a.toNat 0).toNat : Int) != (32 : Int))) && (decide ((l1000000a.length : Int) > (0 : Int))))))) <|
 chk ((((!(((r6.getD t4a.toNat 0).toNat : Int) != (32 : Int))) && (decide ((l1000000a.length : Int) > (0 : Int)))) || (!((!(((r6.getD t4a.toNat 0).toNat : Int) != (32 : Int))) && (decide ((l1000000a.length : Int) > (0 : Int))))))) <|
 chk ((((!(((r6.getD t4a.toNat 0).toNat : Int) != (32 : Int))) && (decide ((l1000000a.length : Int) > (0 : Int)))) || (!((!(((r6.getD t4a.toNat 0).toNat : Int) != (32 : Int))) && (decide ((l1000000a.length : Int) > (0 : Int))))))) <|
 chk (((decide ((0 : Int) ≤ IntKind.i64.wrap ((l1000000a.length : Int) - (1 : Int)))) || (!((!(((r6.getD t4a.toNat 0).toNat : Int) != (32 : Int))) && (decide ((l1000000a.length : Int) > (0 : Int))))))) <|
 chk (((decide (IntKind.i64.wrap ((l1000000a.length : Int) - (1 : Int)) < (l1000000a.length : Int))) || (!((!(((r6.getD t4a.toNat 0).toNat : Int) != (32 : Int))) && (decide ((l1000000a.length : Int) > (0 : Int))))))) <|
 chk ((((!(((r6.getD t4a.toNat 0).toNat : Int) != (32 : Int))) && (decide ((l1000000a.length : Int) > (0 : Int)))) || (!((!(((r6.getD t4a.toNat 0).toNat : Int) != (32 : Int))) && (decide ((l1000000a.length : Int) > (0 : Int))))))) <|
 chk (((decide ((IntKind.i64.wrap ((l1000000a.length : Int) - (1 : Int))).toNat < l1000000a.length)) || (!((!(((r6.getD t4a.toNat 0).toNat : Int) != (32 : Int))) && (decide ((l1000000a.length : Int) > (0 : Int))))))) <|
 let x27 : Int := (l1000000a.getD ((IntKind.i64.wrap ((l1000000a.length : Int) - (1 : Int))).toNat) 0)
 chk ((((!(((r6.getD t4a.toNat 0).toNat : Int) != (32 : Int))) && (decide ((l1000000a.length : Int) > (0 : Int)))) || (!((!(((r6.getD t4a.toNat 0).toNat : Int) != (32 : Int))) && (decide ((l1000000a.length : Int) > (0 : Int))))))) <|
 chk (((!(((r6.getD t4a.toNat 0).toNat : Int) != (32 : Int))) || (!(!(((r6.getD t4a.toNat 0).toNat : Int) != (32 : Int)))))) <|
 chk (((bif decide ((l1000000a.length : Int) > (0 : Int)) then ((!(((r6.getD t4a.toNat 0).toNat : Int) != (32 : Int))) && (decide ((l1000000a.length : Int) > (0 : Int)))) else true) || (!(!(((r6.getD t4a.toNat 0).toNat : Int) != (32 : Int)))))) <|
 chk (((bif decide ((l1000000a.length : Int) > (0 : Int)) then true else true) || (!(!(((r6.getD t4a.toNat 0).toNat : Int) != (32 : Int)))))) <|
 let x29 : Bool := bif decide ((l1000000a.length : Int) > (0 : Int)) then (x27 != (32 : Int)) else false
 chk (bif (((r6.getD t4a.toNat 0).toNat : Int) != (32 : Int)) then true else !(((r6.getD t4a.toNat 0).toNat : Int) != (32 : Int))) <|
 chk (bif (((r6.getD t4a.toNat 0).toNat : Int) != (32 : Int)) then true else true) <|
 let x30 : Bool := bif (((r6.getD t4a.toNat 0).toNat : Int) != (32 : Int)) then true else x29
 bif x30 then (chk (decide ((0 : Int) ≤ t4a)) <|
 chk (decide (t4a < (r6.length : Int))) <|
 chk (decide ((l1000000a.length + 1) * 2 ≤ 140737488355328)) <|
 k1 (IntKind.i64.wrap (t4a + (1 : Int)), l1000000a ++ ([((r6.getD t4a.toNat 0).toNat : Int)] : List Int)))
 else (k1 (IntKind.i64.wrap (t4a + (1 : Int)), l1000000a)))
 else (x2 l1000000a))
 N (0, ([] : List Int)) (fun l1004096b =>
 chk (((decide ((l1004096b.length : Int) > (0 : Int))) || (!(decide ((l1004096b.length : Int) > (0 : Int)))))) <|
 chk (((decide ((l1004096b.length : Int) > (0 : Int))) || (!(decide ((l1004096b.length : Int) > (0 : Int)))))) <|
 chk (((decide ((l1004096b.length : Int) > (0 : Int))) || (!(decide ((l1004096b.length : Int) > (0 : Int)))))) <|
 chk (((decide ((l1004096b.length : Int) > (0 : Int))) || (!(decide ((l1004096b.length : Int) > (0 : Int)))))) <|
 chk (((decide ((0 : Int) ≤ IntKind.i64.wrap ((l1004096b.length : Int) - (1 : Int)))) || (!(decide ((l1004096b.length : Int) > (0 : Int)))))) <|
 chk (((decide (IntKind.i64.wrap ((l1004096b.length : Int) - (1 : Int)) < (l1004096b.length : Int))) || (!(decide ((l1004096b.length : Int) > (0 : Int)))))) <|
 chk (((decide ((l1004096b.length : Int) > (0 : Int))) || (!(decide ((l1004096b.length : Int) > (0 : Int)))))) <|
 chk (((decide ((IntKind.i64.wrap ((l1004096b.length : Int) - (1 : Int))).toNat < l1004096b.length)) || (!(decide ((l1004096b.length : Int) > (0 : Int)))))) <|
 let x46 : Int := (l1004096b.getD ((IntKind.i64.wrap ((l1004096b.length : Int) - (1 : Int))).toNat) 0)
 chk (((decide ((l1004096b.length : Int) > (0 : Int))) || (!(decide ((l1004096b.length : Int) > (0 : Int)))))) <|
 chk (bif decide ((l1004096b.length : Int) > (0 : Int)) then decide ((l1004096b.length : Int) > (0 : Int)) else true) <|
 chk (bif decide ((l1004096b.length : Int) > (0 : Int)) then true else true) <|
 let x48 : Bool := bif decide ((l1004096b.length : Int) > (0 : Int)) then (x46 == (32 : Int)) else false
 bif x48 then (chk (decide ((0 : Int) ≤ IntKind.i64.wrap ((l1004096b.length : Int) - (1 : Int)))) <|
 chk (decide (IntKind.i64.wrap ((l1004096b.length : Int) - (1 : Int)) ≤ (l1004096b.length : Int))) <|
 chk (List.all (cutL l1004096b 0 ((IntKind.i64.wrap ((l1004096b.length : Int) - (1 : Int))).toNat)) isByte) <|
 let x55 : Bs := List.map byteOf (cutL l1004096b 0 ((IntKind.i64.wrap ((l1004096b.length : Int) - (1 : Int))).toNat))
 some x55)
 else (chk (List.all l1004096b isByte) <|
 some (List.map byteOf l1004096b)))

-- certpath/certpathref01.MatchText
abbrev ref01_MatchText_O : Type := Bool
def ref01_MatchText (N : Nat) (p0 : Bs) (p1 : Bs) : Option ref01_MatchText_O :=
 callO (ref01_Fold N p0) fun r6 =>
 callO (ref01_Fold N p1) fun r8 =>
 some (r6 == r8)

-- certpath/certpathref07.has
abbrev ref07_has_O : Type := Bool
def ref07_has (N : Nat) (p0 : Yq2) (p1 : Bs × Int × Bs) : Option ref07_has_O :=
 iterG (X := Int × Bs × Int × Bs) (Y := Unit) (U4 fun t9a b33536_0a b33536_1a b33536_2a k1 x2 =>
 bif decide (t9a < (p0.length : Int)) then (chk (decide ((0 : Int) ≤ t9a)) <|
 chk (decide (t9a < (p0.length : Int))) <|
 chk (((((p0.getD t9a.toNat (([] : Bs), 0, ([] : Bs))).1) == b33536_0a) || (!(((p0.getD t9a.toNat (([] : Bs), 0, ([] : Bs))).1) == b33536_0a)))) <|
 chk (((((p0.getD t9a.toNat (([] : Bs), 0, ([] : Bs))).1) == b33536_0a) || (!(((p0.getD t9a.toNat (([] : Bs), 0, ([] : Bs))).1) == b33536_0a)))) <|
 chk (((((p0.getD t9a.toNat (([] : Bs), 0, ([] : Bs))).1) == b33536_0a) || (!(((p0.getD t9a.toNat (([] : Bs), 0, ([] : Bs))).1) == b33536_0a)))) <|
 chk (((((p0.getD t9a.toNat (([] : Bs), 0, ([] : Bs))).1) == b33536_0a) || (!(((p0.getD t9a.toNat (([] : Bs), 0, ([] : Bs))).1) == b33536_0a)))) <|
 chk ((((ref01_MatchText N ((p0.getD t9a.toNat (([] : Bs), 0, ([] : Bs))).2.2) b33536_2a).isSome) || (!(((p0.getD t9a.toNat (([] : Bs), 0, ([] : Bs))).1) == b33536_0a)))) <|
 let r23 := (ref01_MatchText N ((p0.getD t9a.toNat (([] : Bs), 0, ([] : Bs))).2.2) b33536_2a).getD default
 chk (bif (((p0.getD t9a.toNat (([] : Bs), 0, ([] : Bs))).1) == b33536_0a) then (((p0.getD t9a.toNat (([] : Bs), 0, ([] : Bs))).1) == b33536_0a) else true) <|
 chk (bif (((p0.getD t9a.toNat (([] : Bs), 0, ([] : Bs))).1) == b33536_0a) then true else true) <|
 let x24 : Bool := bif (((p0.getD t9a.toNat (([] : Bs), 0, ([] : Bs))).1) == b33536_0a) then r23 else false
 bif x24 then (some true)
 else (k1 (IntKind.i64.wrap (t9a + (1 : Int)), b33536_0a, b33536_1a, b33536_2a)))
 else (x2 ()))
 N (0, p1.1, p1.2.1, p1.2.2) (fun _ =>
 some false)

-- certpath/certpathref07.matchRDN
abbrev ref07_matchRDN_O : Type := Bool
def ref07_matchRDN (N : Nat) (p0 : Yq2) (p1 : Yq2) : Option ref07_matchRDN_O :=
 bif ((p0.length : Int) != (p1.length : Int)) then (some false)
 else (iterG (X := Int) (Y := Unit) (fun t13a k1 x2 =>
 bif decide (t13a < (p0.length : Int)) then (chk (decide ((0 : Int) ≤ t13a)) <|
 chk (decide (t13a < (p0.length : Int))) <|
 callO (ref07_has N p1 (p0.getD t13a.toNat (([] : Bs), 0, ([] : Bs)))) fun r21 =>
 chk (((!(!r21)) || (!(!(!r21))))) <|
 chk (((!(!r21)) || (!(!(!r21))))) <|
 chk (((decide ((0 : Int) ≤ t13a)) || (!(!(!r21))))) <|
 chk (((decide (t13a < (p1.length : Int))) || (!(!(!r21))))) <|
 chk (((!(!r21)) || (!(!(!r21))))) <|
 chk (((!(!r21)) || (!(!(!r21))))) <|
 chk (((!(!r21)) || (!(!(!r21))))) <|
 chk ((((ref07_has N p0 (p1.getD t13a.toNat (([] : Bs), 0, ([] : Bs)))).isSome) || (!(!(!r21))))) <|
 let r29 := (ref07_has N p0 (p1.getD t13a.toNat (([] : Bs), 0, ([] : Bs)))).getD default
 chk (((!(!r21)) || (!(!(!r21))))) <|
 chk (bif !r21 then true else !(!r21)) <|
 chk (bif !r21 then true else true) <|
 bif bif !r21 then true else !r29 then (some false)
 else (k1 (IntKind.i64.wrap (t13a + (1 : Int)))))
 else (x2 ()))
 N 0 (fun _ =>
 some true))

-- certpath/certpathref07.WithinName
abbrev ref07_WithinName_O : Type := Bool
def ref07_WithinName (N : Nat) (p0 : List Yq2) (p1 : List Yq2) : Option ref07_WithinName_O :=
 bif decide ((p1.length : Int) > (p0.length : Int)) then (some false)
 else (iterG (X := Int × List Yq2 × List Yq2) (Y := Unit) (U3 fun t16a b33280_0a b33536_0a k1 x2 =>
 bif decide (t16a < (p1.length : Int)) then (chk (decide ((0 : Int) ≤ t16a)) <|
 chk (decide (t16a < (b33280_0a.length : Int))) <|
 chk (decide ((0 : Int) ≤ t16a)) <|
 chk (decide (t16a < (b33536_0a.length : Int))) <|
 callO (ref07_matchRDN N (b33280_0a.getD t16a.toNat ([] : List (Bs × Int × Bs))) (b33536_0a.getD t16a.toNat ([] : List (Bs × Int × Bs)))) fun r29 =>
 bif !r29 then (some false)
 else (k1 (IntKind.i64.wrap (t16a + (1 : Int)), b33280_0a, b33536_0a)))
 else (x2 ()))
 N (0, p0, p1) (fun _ =>
 some true))

-- certpath/certpathref07.MatchName
abbrev ref07_MatchName_O : Type := Bool
def ref07_MatchName (N : Nat) (p0 : List Yq2) (p1 : List Yq2) : Option ref07_MatchName_O :=
 chk ((((p0.length : Int) == (p1.length : Int)) || (!((p0.length : Int) == (p1.length : Int))))) <|
 chk ((((p0.length : Int) == (p1.length : Int)) || (!((p0.length : Int) == (p1.length : Int))))) <|
 chk ((((ref07_WithinName N p0 p1).isSome) || (!((p0.length : Int) == (p1.length : Int))))) <|
 let r15 := (ref07_WithinName N p0 p1).getD default
 chk (bif ((p0.length : Int) == (p1.length : Int)) then ((p0.length : Int) == (p1.length : Int)) else true) <|
 chk (bif ((p0.length : Int) == (p1.length : Int)) then true else true) <|
 some (bif ((p0.length : Int) == (p1.length : Int)) then r15 else false)

-- certpath/certpathref14.reason
abbrev ref14_reason_O : Type := Bool
def ref14_reason (N : Nat) (p0 : Int) : Option ref14_reason_O :=
 chk (((decide (p0 ≥ (0 : Int))) || (!(decide (p0 ≥ (0 : Int)))))) <|
 chk (bif decide (p0 ≥ (0 : Int)) then decide (p0 ≥ (0 : Int)) else true) <|
 chk (bif decide (p0 ≥ (0 : Int)) then true else true) <|
 chk (((!(bif decide (p0 ≥ (0 : Int)) then decide (p0 ≤ (6 : Int)) else false)) || (!(!(bif decide (p0 ≥ (0 : Int)) then decide (p0 ≤ (6 : Int)) else false))))) <|
 chk (((!(bif decide (p0 ≥ (0 : Int)) then decide (p0 ≤ (6 : Int)) else false)) || (!(!(bif decide (p0 ≥ (0 : Int)) then decide (p0 ≤ (6 : Int)) else false))))) <|
 chk ((((!(bif decide (p0 ≥ (0 : Int)) then decide (p0 ≤ (6 : Int)) else false)) && (decide (p0 ≥ (8 : Int)))) || (!((!(bif decide (p0 ≥ (0 : Int)) then decide (p0 ≤ (6 : Int)) else false)) && (decide (p0 ≥ (8 : Int))))))) <|
 chk (((!(bif decide (p0 ≥ (0 : Int)) then decide (p0 ≤ (6 : Int)) else false)) || (!(!(bif decide (p0 ≥ (0 : Int)) then decide (p0 ≤ (6 : Int)) else false))))) <|
 chk (((bif decide (p0 ≥ (8 : Int)) then ((!(bif decide (p0 ≥ (0 : Int)) then decide (p0 ≤ (6 : Int)) else false)) && (decide (p0 ≥ (8 : Int)))) else true) || (!(!(bif decide (p0 ≥ (0 : Int)) then decide (p0 ≤ (6 : Int)) else false))))) <|
 chk (((bif decide (p0 ≥ (8 : Int)) then true else true) || (!(!(bif decide (p0 ≥ (0 : Int)) then decide (p0 ≤ (6 : Int)) else false))))) <|
 chk (bif bif decide (p0 ≥ (0 : Int)) then decide (p0 ≤ (6 : Int)) else false then true else !(bif decide (p0 ≥ (0 : Int)) then decide (p0 ≤ (6 : Int)) else false)) <|
 chk (bif bif decide (p0 ≥ (0 : Int)) then decide (p0 ≤ (6 : Int)) else false then true else true) <|
 let x16 : Bool := bif bif decide (p0 ≥ (0 : Int)) then decide (p0 ≤ (6 : Int)) else false then true else bif decide (p0 ≥ (8 : Int)) then decide (p0 ≤ (10 : Int)) else false
 some x16

-- certpath/certpathref14.checkEntry
abbrev ref14_checkEntry_O : Type := Int
def ref14_checkEntry (N : Nat) (p0 : Yq7) (p1 : Int) : Option ref14_checkEntry_O :=
 chk (decide ((0 : Int) ≤ p1)) <|
 chk (decide (p1 < (p0.2.2.2.2.2.2.2.2.2.2.2.2.2.2.2.1.length : Int))) <|
 let x14 : Int := (p0.2.2.2.2.2.2.2.2.2.2.2.2.2.2.2.1.getD p1.toNat (0, 0, 0, 0, ([] : List Yq2))).1
 chk (((!(decide (x14 < (1 : Int)))) || (!(!(decide (x14 < (1 : Int))))))) <|
 let x18 : Int := (p0.2.2.2.2.2.2.2.2.2.2.2.2.2.2.2.1.getD p1.toNat (0, 0, 0, 0, ([] : List Yq2))).1
 chk (((!(decide (x14 < (1 : Int)))) || (!(!(decide (x14 < (1 : Int))))))) <|
 chk (bif decide (x14 < (1 : Int)) then true else !(decide (x14 < (1 : Int)))) <|
 chk (bif decide (x14 < (1 : Int)) then true else true) <|
 let x20 : Bool := bif decide (x14 < (1 : Int)) then true else decide (x18 > (4611686018427387904 : Int))
 bif x20 then (some 21)
 else (let x22 : Int := (p0.2.2.2.2.2.2.2.2.2.2.2.2.2.2.2.1.getD p1.toNat (0, 0, 0, 0, ([] : List Yq2))).2.1
 chk (((!(decide (x22 < (0 : Int)))) || (!(!(decide (x22 < (0 : Int))))))) <|
 let x26 : Int := (p0.2.2.2.2.2.2.2.2.2.2.2.2.2.2.2.1.getD p1.toNat (0, 0, 0, 0, ([] : List Yq2))).2.1
 chk (((!(decide (x22 < (0 : Int)))) || (!(!(decide (x22 < (0 : Int))))))) <|
 chk (bif decide (x22 < (0 : Int)) then true else !(decide (x22 < (0 : Int)))) <|
 chk (bif decide (x22 < (0 : Int)) then true else true) <|
 let x28 : Bool := bif decide (x22 < (0 : Int)) then true else decide (x26 > (254033452799 : Int))
 chk (((!x28) || (!(!x28)))) <|
 let x31 : Int := (p0.2.2.2.2.2.2.2.2.2.2.2.2.2.2.2.1.getD p1.toNat (0, 0, 0, 0, ([] : List Yq2))).2.2.2.1
 chk (((!x28) || (!(!x28)))) <|
 chk (bif x28 then true else !x28) <|
 chk (bif x28 then true else true) <|
 chk (((!(bif x28 then true else decide (x31 < ((-1) : Int)))) || (!(!(bif x28 then true else decide (x31 < ((-1) : Int))))))) <|
 let x36 : Int := (p0.2.2.2.2.2.2.2.2.2.2.2.2.2.2.2.1.getD p1.toNat (0, 0, 0, 0, ([] : List Yq2))).2.2.2.1
 chk (((!(bif x28 then true else decide (x31 < ((-1) : Int)))) || (!(!(bif x28 then true else decide (x31 < ((-1) : Int))))))) <|
 chk (bif bif x28 then true else decide (x31 < ((-1) : Int)) then true else !(bif x28 then true else decide (x31 < ((-1) : Int)))) <|
 chk (bif bif x28 then true else decide (x31 < ((-1) : Int)) then true else true) <|
 let x38 : Bool := bif bif x28 then true else decide (x31 < ((-1) : Int)) then true else decide (x36 > (254033452799 : Int))
 bif x38 then (some 12)
 else (let x40 : Int := (p0.2.2.2.2.2.2.2.2.2.2.2.2.2.2.2.1.getD p1.toNat (0, 0, 0, 0, ([] : List Yq2))).2.2.1
 callO (ref14_reason N x40) fun r41 =>
 chk (((!(!r41)) || (!(!(!r41))))) <|
 let x45 : Int := (p0.2.2.2.2.2.2.2.2.2.2.2.2.2.2.2.1.getD p1.toNat (0, 0, 0, 0, ([] : List Yq2))).2.2.1
 chk (((!(!r41)) || (!(!(!r41))))) <|
 chk (((!(!r41)) || (!(!(!r41))))) <|
 chk ((((!(!r41)) && (x45 == (8 : Int))) || (!((!(!r41)) && (x45 == (8 : Int)))))) <|
 chk ((((!(!r41)) && (x45 == (8 : Int))) || (!((!(!r41)) && (x45 == (8 : Int)))))) <|
 chk (((!(!r41)) || (!(!(!r41))))) <|
 chk (((bif (x45 == (8 : Int)) then ((!(!r41)) && (x45 == (8 : Int))) else true) || (!(!(!r41))))) <|
 chk (((bif (x45 == (8 : Int)) then true else true) || (!(!(!r41))))) <|
 let x51 : Bool := bif (x45 == (8 : Int)) then (p0.2.2.2.2.2.2.1 == ((-1) : Int)) else false
 chk (bif !r41 then true else !(!r41)) <|
 chk (bif !r41 then true else true) <|
 bif bif !r41 then true else x51 then (some 7)
 else (let x56 : Int := (((p0.2.2.2.2.2.2.2.2.2.2.2.2.2.2.2.1.getD p1.toNat (0, 0, 0, 0, ([] : List Yq2))).2.2.2.2).length : Int)
 bif (x56 == (0 : Int)) then (some 14)
 else (callO (ref07_CheckName N ((p0.2.2.2.2.2.2.2.2.2.2.2.2.2.2.2.1.getD p1.toNat (0, 0, 0, 0, ([] : List Yq2))).2.2.2.2)) fun r60 =>
 bif (r60 != (0 : Int)) then (some r60)
 else (chk (((!p0.2.2.2.2.2.2.2.2.2.2.2.2.2.1) || (!(!p0.2.2.2.2.2.2.2.2.2.2.2.2.2.1)))) <|
 chk (((!p0.2.2.2.2.2.2.2.2.2.2.2.2.2.1) || (!(!p0.2.2.2.2.2.2.2.2.2.2.2.2.2.1)))) <|
 chk (((!p0.2.2.2.2.2.2.2.2.2.2.2.2.2.1) || (!(!p0.2.2.2.2.2.2.2.2.2.2.2.2.2.1)))) <|
 chk (((!p0.2.2.2.2.2.2.2.2.2.2.2.2.2.1) || (!(!p0.2.2.2.2.2.2.2.2.2.2.2.2.2.1)))) <|
 chk ((((ref07_MatchName N ((p0.2.2.2.2.2.2.2.2.2.2.2.2.2.2.2.1.getD p1.toNat (0, 0, 0, 0, ([] : List Yq2))).2.2.2.2) p0.2.2.1).isSome) || (!(!p0.2.2.2.2.2.2.2.2.2.2.2.2.2.1)))) <|
 let r73 := (ref07_MatchName N ((p0.2.2.2.2.2.2.2.2.2.2.2.2.2.2.2.1.getD p1.toNat (0, 0, 0, 0, ([] : List Yq2))).2.2.2.2) p0.2.2.1).getD default
 chk (((!p0.2.2.2.2.2.2.2.2.2.2.2.2.2.1) || (!(!p0.2.2.2.2.2.2.2.2.2.2.2.2.2.1)))) <|
 chk (bif !p0.2.2.2.2.2.2.2.2.2.2.2.2.2.1 then !p0.2.2.2.2.2.2.2.2.2.2.2.2.2.1 else true) <|
 chk (bif !p0.2.2.2.2.2.2.2.2.2.2.2.2.2.1 then true else true) <|
 bif bif !p0.2.2.2.2.2.2.2.2.2.2.2.2.2.1 then !r73 else false then (some 31)
 else (iterG (X := Int × Bs × Bs × List Yq2 × Int × Int × Int × Int × Bs × Bool × List Yq3 × Bool × Bool × Int × Bool × List Yq5 × List Yq6 × Bs × Int × Int × Int × Int × List Yq2) (Y := Unit) (U23 fun t7a b33280_0a b33280_1a b33280_2a b33280_3a b33280_4a b33280_5a b33280_6a b33280_7a b33280_8a b33280_9a b33280_10a b33280_11a b33280_12a b33280_13a b33280_14a b33280_15a b33280_16a b34048_0a b34048_1a b34048_2a b34048_3a b34048_4a k1 x2 =>
 bif decide (t7a < p1) then (chk (decide ((0 : Int) ≤ t7a)) <|
 chk (decide (t7a < (b33280_15a.length : Int))) <|
 let x89 : Bool := (((b33280_15a.getD t7a.toNat (0, 0, 0, 0, ([] : List Yq2))).1) == b34048_0a)
 chk ((x89 || (!x89))) <|
 chk ((x89 || (!x89))) <|
 chk ((x89 || (!x89))) <|
 chk (((decide ((0 : Int) ≤ t7a)) || (!x89))) <|
 chk (((decide (t7a < (b33280_15a.length : Int))) || (!x89))) <|
 chk ((x89 || (!x89))) <|
 chk ((x89 || (!x89))) <|
 chk ((x89 || (!x89))) <|
 chk ((x89 || (!x89))) <|
 chk ((x89 || (!x89))) <|
 chk ((((ref07_MatchName N ((b33280_15a.getD t7a.toNat (0, 0, 0, 0, ([] : List Yq2))).2.2.2.2) b34048_4a).isSome) || (!x89))) <|
 let r99 := (ref07_MatchName N ((b33280_15a.getD t7a.toNat (0, 0, 0, 0, ([] : List Yq2))).2.2.2.2) b34048_4a).getD default
 chk (bif x89 then x89 else true) <|
 chk (bif x89 then true else true) <|
 bif bif x89 then r99 else false then (some 10)
 else (k1 (IntKind.i64.wrap (t7a + (1 : Int)), b33280_0a, b33280_1a, b33280_2a, b33280_3a, b33280_4a, b33280_5a, b33280_6a, b33280_7a, b33280_8a, b33280_9a, b33280_10a, b33280_11a, b33280_12a, b33280_13a, b33280_14a, b33280_15a, b33280_16a, b34048_0a, b34048_1a, b34048_2a, b34048_3a, b34048_4a)))
 else (x2 ()))
 N (0, p0.1, p0.2.1, p0.2.2.1, p0.2.2.2.1, p0.2.2.2.2.1, p0.2.2.2.2.2.1, p0.2.2.2.2.2.2.1, p0.2.2.2.2.2.2.2.1, p0.2.2.2.2.2.2.2.2.1, p0.2.2.2.2.2.2.2.2.2.1, p0.2.2.2.2.2.2.2.2.2.2.1, p0.2.2.2.2.2.2.2.2.2.2.2.1, p0.2.2.2.2.2.2.2.2.2.2.2.2.1, p0.2.2.2.2.2.2.2.2.2.2.2.2.2.1, p0.2.2.2.2.2.2.2.2.2.2.2.2.2.2.1, p0.2.2.2.2.2.2.2.2.2.2.2.2.2.2.2.1, p0.2.2.2.2.2.2.2.2.2.2.2.2.2.2.2.2, (p0.2.2.2.2.2.2.2.2.2.2.2.2.2.2.2.1.getD p1.toNat (0, 0, 0, 0, ([] : List Yq2))).1, (p0.2.2.2.2.2.2.2.2.2.2.2.2.2.2.2.1.getD p1.toNat (0, 0, 0, 0, ([] : List Yq2))).2.1, (p0.2.2.2.2.2.2.2.2.2.2.2.2.2.2.2.1.getD p1.toNat (0, 0, 0, 0, ([] : List Yq2))).2.2.1, (p0.2.2.2.2.2.2.2.2.2.2.2.2.2.2.2.1.getD p1.toNat (0, 0, 0, 0, ([] : List Yq2))).2.2.2.1, (p0.2.2.2.2.2.2.2.2.2.2.2.2.2.2.2.1.getD p1.toNat (0, 0, 0, 0, ([] : List Yq2))).2.2.2.2) (fun _ =>
 some 0)))))))

-- certpath/certpathref14.CheckList
abbrev ref14_CheckList_O : Type := Int
def ref14_CheckList (N : Nat) (p0 : Yq7) : Option ref14_CheckList_O :=
 bif ((p0.2.2.1.length : Int) == (0 : Int)) then (some 14)
 else (callO (ref07_CheckName N p0.2.2.1) fun r15 =>
 bif (r15 != (0 : Int)) then (some r15)
 else (chk (((!(decide (p0.2.2.2.1 < (0 : Int)))) || (!(!(decide (p0.2.2.2.1 < (0 : Int))))))) <|
 chk (((!(decide (p0.2.2.2.1 < (0 : Int)))) || (!(!(decide (p0.2.2.2.1 < (0 : Int))))))) <|
 chk (bif decide (p0.2.2.2.1 < (0 : Int)) then true else !(decide (p0.2.2.2.1 < (0 : Int)))) <|
 chk (bif decide (p0.2.2.2.1 < (0 : Int)) then true else true) <|
 let x26 : Bool := bif decide (p0.2.2.2.1 < (0 : Int)) then true else decide (p0.2.2.2.1 > (254033452799 : Int))
 chk (((!x26) || (!(!x26)))) <|
 chk (((!x26) || (!(!x26)))) <|
 chk (bif x26 then true else !x26) <|
 chk (bif x26 then true else true) <|
 chk (((!(bif x26 then true else decide (p0.2.2.2.2.1 < (0 : Int)))) || (!(!(bif x26 then true else decide (p0.2.2.2.2.1 < (0 : Int))))))) <|
 chk (((!(bif x26 then true else decide (p0.2.2.2.2.1 < (0 : Int)))) || (!(!(bif x26 then true else decide (p0.2.2.2.2.1 < (0 : Int))))))) <|
 chk (bif bif x26 then true else decide (p0.2.2.2.2.1 < (0 : Int)) then true else !(bif x26 then true else decide (p0.2.2.2.2.1 < (0 : Int)))) <|
 chk (bif bif x26 then true else decide (p0.2.2.2.2.1 < (0 : Int)) then true else true) <|
 let x36 : Bool := bif bif x26 then true else decide (p0.2.2.2.2.1 < (0 : Int)) then true else decide (p0.2.2.2.2.1 > (254033452799 : Int))
 chk (((!x36) || (!(!x36)))) <|
 chk (((!x36) || (!(!x36)))) <|
 chk (((!x36) || (!(!x36)))) <|
 chk (((!x36) || (!(!x36)))) <|
 chk (bif x36 then true else !x36) <|
 chk (bif x36 then true else true) <|
 bif bif x36 then true else decide (p0.2.2.2.1 > p0.2.2.2.2.1) then (some 12)
 else (chk (((!(decide (p0.2.2.2.2.2.1 < (0 : Int)))) || (!(!(decide (p0.2.2.2.2.2.1 < (0 : Int))))))) <|
 chk (((!(decide (p0.2.2.2.2.2.1 < (0 : Int)))) || (!(!(decide (p0.2.2.2.2.2.1 < (0 : Int))))))) <|
 chk (bif decide (p0.2.2.2.2.2.1 < (0 : Int)) then true else !(decide (p0.2.2.2.2.2.1 < (0 : Int)))) <|
 chk (bif decide (p0.2.2.2.2.2.1 < (0 : Int)) then true else true) <|
 let x51 : Bool := bif decide (p0.2.2.2.2.2.1 < (0 : Int)) then true else decide (p0.2.2.2.2.2.1 > (4611686018427387904 : Int))
 chk (((!x51) || (!(!x51)))) <|
 chk (((!x51) || (!(!x51)))) <|
 chk (bif x51 then true else !x51) <|
 chk (bif x51 then true else true) <|
 chk (((!(bif x51 then true else decide (p0.2.2.2.2.2.2.1 < ((-1) : Int)))) || (!(!(bif x51 then true else decide (p0.2.2.2.2.2.2.1 < ((-1) : Int))))))) <|
 chk (((!(bif x51 then true else decide (p0.2.2.2.2.2.2.1 < ((-1) : Int)))) || (!(!(bif x51 then true else decide (p0.2.2.2.2.2.2.1 < ((-1) : Int))))))) <|
 chk (bif bif x51 then true else decide (p0.2.2.2.2.2.2.1 < ((-1) : Int)) then true else !(bif x51 then true else decide (p0.2.2.2.2.2.2.1 < ((-1) : Int)))) <|
 chk (bif bif x51 then true else decide (p0.2.2.2.2.2.2.1 < ((-1) : Int)) then true else true) <|
 let x61 : Bool := bif bif x51 then true else decide (p0.2.2.2.2.2.2.1 < ((-1) : Int)) then true else decide (p0.2.2.2.2.2.2.1 > (4611686018427387904 : Int))
 chk (((!x61) || (!(!x61)))) <|
 chk (((!x61) || (!(!x61)))) <|
 chk (((!x61) || (!(!x61)))) <|
 chk ((((!x61) && (p0.2.2.2.2.2.2.1 != ((-1) : Int))) || (!((!x61) && (p0.2.2.2.2.2.2.1 != ((-1) : Int)))))) <|
 chk ((((!x61) && (p0.2.2.2.2.2.2.1 != ((-1) : Int))) || (!((!x61) && (p0.2.2.2.2.2.2.1 != ((-1) : Int)))))) <|
 chk ((((!x61) && (p0.2.2.2.2.2.2.1 != ((-1) : Int))) || (!((!x61) && (p0.2.2.2.2.2.2.1 != ((-1) : Int)))))) <|
 chk ((((!x61) && (p0.2.2.2.2.2.2.1 != ((-1) : Int))) || (!((!x61) && (p0.2.2.2.2.2.2.1 != ((-1) : Int)))))) <|
 chk (((!x61) || (!(!x61)))) <|
 chk (((bif (p0.2.2.2.2.2.2.1 != ((-1) : Int)) then ((!x61) && (p0.2.2.2.2.2.2.1 != ((-1) : Int))) else true) || (!(!x61)))) <|
 chk (((bif (p0.2.2.2.2.2.2.1 != ((-1) : Int)) then true else true) || (!(!x61)))) <|
 let x72 : Bool := bif (p0.2.2.2.2.2.2.1 != ((-1) : Int)) then decide (p0.2.2.2.2.2.2.1 ≥ p0.2.2.2.2.2.1) else false
 chk (bif x61 then true else !x61) <|
 chk (bif x61 then true else true) <|
 bif bif x61 then true else x72 then (some 1)
 else (bif decide ((p0.2.2.2.2.2.2.2.1.length : Int) > (32 : Int)) then (some 2)
 else (callO (ref14_checkScope N p0) fun r79 =>
 bif (r79 != (0 : Int)) then (some r79)
 else (chk (((p0.2.2.2.2.2.2.1 != ((-1) : Int)) || (!(p0.2.2.2.2.2.2.1 != ((-1) : Int))))) <|
 chk (((p0.2.2.2.2.2.2.1 != ((-1) : Int)) || (!(p0.2.2.2.2.2.2.1 != ((-1) : Int))))) <|
 chk (((p0.2.2.2.2.2.2.1 != ((-1) : Int)) || (!(p0.2.2.2.2.2.2.1 != ((-1) : Int))))) <|
 chk (bif (p0.2.2.2.2.2.2.1 != ((-1) : Int)) then (p0.2.2.2.2.2.2.1 != ((-1) : Int)) else true) <|
 chk (bif (p0.2.2.2.2.2.2.1 != ((-1) : Int)) then true else true) <|
 let x91 : Bool := bif (p0.2.2.2.2.2.2.1 != ((-1) : Int)) then decide ((p0.2.2.2.2.2.2.2.2.2.2.2.2.2.2.1.length : Int) > (0 : Int)) else false
 bif x91 then (some 7)
 else (callO (ref14_CheckPoints N p0.2.2.2.2.2.2.2.2.2.2.2.2.2.2.1) fun r94 =>
 bif (r94 != (0 : Int)) then (some r94)
 else (let x101 : Bool := decide ((p0.2.2.2.2.2.2.2.2.2.2.2.2.2.2.2.1.length : Int) > (256 : Int))
 bif x101 then (some 2)
 else (iterG (X := Int × Bs × Bs × List Yq2 × Int × Int × Int × Int × Bs × Bool × List Yq3 × Bool × Bool × Int × Bool × List Yq5 × List Yq6 × Bs) (Y := Unit) (U18 fun t105a b33024_0a b33024_1a b33024_2a b33024_3a b33024_4a b33024_5a b33024_6a b33024_7a b33024_8a b33024_9a b33024_10a b33024_11a b33024_12a b33024_13a b33024_14a b33024_15a b33024_16a k1 x2 =>
 bif decide (t105a < (p0.2.2.2.2.2.2.2.2.2.2.2.2.2.2.2.1.length : Int)) then (callO (ref14_checkEntry N (b33024_0a, b33024_1a, b33024_2a, b33024_3a, b33024_4a, b33024_5a, b33024_6a, b33024_7a, b33024_8a, b33024_9a, b33024_10a, b33024_11a, b33024_12a, b33024_13a, b33024_14a, b33024_15a, b33024_16a) t105a) fun r110 =>
 bif (r110 != (0 : Int)) then (some r110)
 else (k1 (IntKind.i64.wrap (t105a + (1 : Int)), b33024_0a, b33024_1a, b33024_2a, b33024_3a, b33024_4a, b33024_5a, b33024_6a, b33024_7a, b33024_8a, b33024_9a, b33024_10a, b33024_11a, b33024_12a, b33024_13a, b33024_14a, b33024_15a, b33024_16a)))
 else (x2 ()))
 N (0, p0.1, p0.2.1, p0.2.2.1, p0.2.2.2.1, p0.2.2.2.2.1, p0.2.2.2.2.2.1, p0.2.2.2.2.2.2.1, p0.2.2.2.2.2.2.2.1, p0.2.2.2.2.2.2.2.2.1, p0.2.2.2.2.2.2.2.2.2.1, p0.2.2.2.2.2.2.2.2.2.2.1, p0.2.2.2.2.2.2.2.2.2.2.2.1, p0.2.2.2.2.2.2.2.2.2.2.2.2.1, p0.2.2.2.2.2.2.2.2.2.2.2.2.2.1, p0.2.2.2.2.2.2.2.2.2.2.2.2.2.2.1, p0.2.2.2.2.2.2.2.2.2.2.2.2.2.2.2.1, p0.2.2.2.2.2.2.2.2.2.2.2.2.2.2.2.2) (fun _ =>
 some 0))))))))))

-- certpath/certpathref01.Wrap
abbrev ref01_Wrap_O : Type := Bs × Int
def ref01_Wrap (N : Nat) (p0 : Int) (p1 : List Bs) : Option ref01_Wrap_O :=
 chk (((!(decide (p0 < (0 : Int)))) || (!(!(decide (p0 < (0 : Int))))))) <|
 chk (bif decide (p0 < (0 : Int)) then true else !(decide (p0 < (0 : Int)))) <|
 chk (bif decide (p0 < (0 : Int)) then true else true) <|
 chk (((!(bif decide (p0 < (0 : Int)) then true else decide (p0 > (255 : Int)))) || (!(!(bif decide (p0 < (0 : Int)) then true else decide (p0 > (255 : Int))))))) <|
 chk (((!(bif decide (p0 < (0 : Int)) then true else decide (p0 > (255 : Int)))) || (!(!(bif decide (p0 < (0 : Int)) then true else decide (p0 > (255 : Int))))))) <|
 chk (bif bif decide (p0 < (0 : Int)) then true else decide (p0 > (255 : Int)) then true else !(bif decide (p0 < (0 : Int)) then true else decide (p0 > (255 : Int)))) <|
 chk (bif bif decide (p0 < (0 : Int)) then true else decide (p0 > (255 : Int)) then true else true) <|
 let x21 : Bool := bif bif decide (p0 < (0 : Int)) then true else decide (p0 > (255 : Int)) then true else ((p0.tmod 32) == (31 : Int))
 bif x21 then (some (([] : Bs), 5))
 else (iterG (X := Bs × Int) (Y := Bs) (U2 fun t6a t24a k1 x2 =>
 bif decide (t24a < (p1.length : Int)) then (chk (decide ((0 : Int) ≤ t24a)) <|
 chk (decide (t24a < (p1.length : Int))) <|
 chk (decide (t6a.length + (p1.getD t24a.toNat ([] : Bs)).length ≤ 140737488355328)) <|
 k1 (t6a ++ (p1.getD t24a.toNat ([] : Bs)), IntKind.i64.wrap (t24a + (1 : Int))))
 else (x2 t6a))
 N (([] : Bs), 0) (fun t6b =>
 bif decide ((t6b.length : Int) > (131072 : Int)) then (some (([] : Bs), 6))
 else (letJ (α := List Int) (fun j3 =>
 bif decide ((t6b.length : Int) ≥ (65536 : Int)) then (j3 ([IntKind.u8.wrap p0, 131, IntKind.u8.wrap ((t6b.length : Int).fdiv (65536)), IntKind.u8.wrap ((t6b.length : Int).fdiv (256)), IntKind.u8.wrap (t6b.length : Int)] : List Int))
 else (bif decide ((t6b.length : Int) ≥ (256 : Int)) then (j3 ([IntKind.u8.wrap p0, 130, IntKind.u8.wrap ((t6b.length : Int).fdiv (256)), IntKind.u8.wrap (t6b.length : Int)] : List Int))
 else (bif decide ((t6b.length : Int) ≥ (128 : Int)) then (j3 ([IntKind.u8.wrap p0, 129, IntKind.u8.wrap (t6b.length : Int)] : List Int))
 else (j3 ([IntKind.u8.wrap p0, IntKind.u8.wrap (t6b.length : Int)] : List Int)))))
 (fun l1008192c =>
 chk (List.all l1008192c isByte) <|
 chk (decide ((List.map byteOf l1008192c).length + t6b.length ≤ 140737488355328)) <|
 some ((List.map byteOf l1008192c) ++ t6b, 0)))))

-- certpath/certpathref07.Wrap
abbrev ref07_Wrap_O : Type := Bs
def ref07_Wrap (N : Nat) (p0 : Int) (p1 : List Bs) : Option ref07_Wrap_O :=
 callO (ref01_Wrap N p0 p1) fun r10 =>
 some r10.1

-- certpath/certpathref01.Order
abbrev ref01_Order_O : Type := Bs
def ref01_Order (N : Nat) (p0 : List Bs) : Option ref01_Order_O :=
 iterG (X := Int × List Bs) (Y := (List Bs)) (U2 fun t12a l1000000a k1 x2 =>
 bif decide (t12a < (p0.length : Int)) then (chk (decide ((0 : Int) ≤ t12a)) <|
 chk (decide (t12a < (p0.length : Int))) <|
 iterG (X := Int × List Bs) (Y := (Int × List Bs)) (U2 fun t6b l1004096b k3 x4 =>
 chk (((decide (t6b < (l1004096b.length : Int))) || (!(decide (t6b < (l1004096b.length : Int)))))) <|
 chk (((decide (t6b < (l1004096b.length : Int))) || (!(decide (t6b < (l1004096b.length : Int)))))) <|
 chk (((decide ((0 : Int) ≤ t6b)) || (!(decide (t6b < (l1004096b.length : Int)))))) <|
 chk (((decide (t6b < (l1004096b.length : Int))) || (!(decide (t6b < (l1004096b.length : Int)))))) <|
 chk (((decide (t6b < (l1004096b.length : Int))) || (!(decide (t6b < (l1004096b.length : Int)))))) <|
 chk (((decide (t6b.toNat < l1004096b.length)) || (!(decide (t6b < (l1004096b.length : Int)))))) <|
 chk (((decide (t6b < (l1004096b.length : Int))) || (!(decide (t6b < (l1004096b.length : Int)))))) <|
 chk (((decide (t6b < (l1004096b.length : Int))) || (!(decide (t6b < (l1004096b.length : Int)))))) <|
 let x26 : Bool := (bytesLess (l1004096b.getD t6b.toNat ([] : Bs)) (p0.getD t12a.toNat ([] : Bs)) || (l1004096b.getD t6b.toNat ([] : Bs)) == (p0.getD t12a.toNat ([] : Bs)))
 chk (bif decide (t6b < (l1004096b.length : Int)) then decide (t6b < (l1004096b.length : Int)) else true) <|
 chk (bif decide (t6b < (l1004096b.length : Int)) then true else true) <|
 bif bif decide (t6b < (l1004096b.length : Int)) then x26 else false then (k3 (IntKind.i64.wrap (t6b + (1 : Int)), l1004096b))
 else (x4 (t6b, l1004096b)))
 N (0, l1000000a) (U2 fun t6c l1008192c =>
 chk (decide ((0 : Int) ≤ t6c)) <|
 chk (decide (t6c ≤ (l1008192c.length : Int))) <|
 chk (decide (((cutL l1008192c 0 t6c.toNat).length) * 17 ≤ 140737488355328)) <|
 chk (decide (((cutL l1008192c 0 t6c.toNat).length + 1) * 17 ≤ 140737488355328)) <|
 let y41984 : List Bs := (cutL l1008192c 0 t6c.toNat) ++ ([(p0.getD t12a.toNat ([] : Bs))] : List Bs)
 chk (decide ((0 : Int) ≤ t6c)) <|
 chk (decide (t6c ≤ (l1008192c.length : Int))) <|
 chk (decide ((y41984.length + (cutL l1008192c t6c.toNat l1008192c.length).length) * 17 ≤ 140737488355328)) <|
 k1 (IntKind.i64.wrap (t12a + (1 : Int)), y41984 ++ (cutL l1008192c t6c.toNat l1008192c.length))))
 else (x2 l1000000a))
 N (0, ([] : List Bs)) (fun l1012288d =>
 iterG (X := Bs × Int × List Bs) (Y := Bs) (U3 fun t7e t44e l1012288e k5 x6 =>
 bif decide (t44e < (l1012288d.length : Int)) then (chk (decide ((0 : Int) ≤ t44e)) <|
 chk (decide (t44e < (l1012288e.length : Int))) <|
 chk (decide (t44e.toNat < l1012288e.length)) <|
 chk (decide (t7e.length + (l1012288e.getD t44e.toNat ([] : Bs)).length ≤ 140737488355328)) <|
 k5 (t7e ++ (l1012288e.getD t44e.toNat ([] : Bs)), IntKind.i64.wrap (t44e + (1 : Int)), l1012288e))
 else (x6 t7e))
 N (([] : Bs), 0, l1012288d) (fun t7f =>
 some t7f))

-- certpath/certpathref01.EncodeOID
abbrev ref01_EncodeOID_O : Type := Bs × Int
def ref01_EncodeOID (N : Nat) (p0 : Bs) : Option ref01_EncodeOID_O :=
 callO (ref01_arcs N p0) fun r13 =>
 bif !r13.2 then (some (([] : Bs), 11))
 else (chk (decide ((0 : Int) < (r13.1.length : Int))) <|
 chk (decide ((1 : Int) < (r13.1.length : Int))) <|
 let x25 : Int := IntKind.i64.wrap ((IntKind.i64.wrap ((40 : Int) * (r13.1.getD 0 0))) + (r13.1.getD 1 0))
 chk (decide ((2 : Int) ≤ (r13.1.length : Int))) <|
 chk (decide ((1 + (cutL r13.1 2 r13.1.length).length) * 9 ≤ 140737488355328)) <|
 iterG (X := Int × List Int × List Int) (Y := (List Int)) (U3 fun t32a l40192a l1000000a k1 x2 =>
 let x33 : Bool := decide (t32a < ((([x25] : List Int) ++ (cutL r13.1 2 r13.1.length)).length : Int))
 bif x33 then (chk (decide ((0 : Int) ≤ t32a)) <|
 chk (decide (t32a < (l40192a.length : Int))) <|
 chk (decide (t32a.toNat < l40192a.length)) <|
 iterG (X := Int × List Int × List Int × List Int) (Y := (List Int × List Int × List Int)) (U4 fun t8b l40192b l1004096b l1004112b k3 x4 =>
 chk (decide ((1 + l1004096b.length) * 2 ≤ 140737488355328)) <|
 bif ((IntKind.i64.wrap (t8b.tdiv 128)) == (0 : Int)) then (x4 (l40192b, ([IntKind.u8.wrap (t8b.tmod 128)] : List Int) ++ l1004096b, l1004112b))
 else (k3 (IntKind.i64.wrap (t8b.tdiv 128), l40192b, ([IntKind.u8.wrap (t8b.tmod 128)] : List Int) ++ l1004096b, l1004112b)))
 N ((l40192a.getD t32a.toNat 0), l40192a, ([] : List Int), l1000000a) (U3 fun l40192c l43264c l1008192c =>
 iterG (X := Int × List Int × List Int × List Int) (Y := (List Int × List Int × List Int)) (U4 fun t10d l40192d l43264d l1012288d k5 x6 =>
 let x50 : Bool := decide ((IntKind.i64.wrap (t10d + (1 : Int))) < (l43264d.length : Int))
 bif x50 then (chk (decide ((0 : Int) ≤ t10d)) <|
 chk (decide (t10d < (l43264d.length : Int))) <|
 chk (decide (t10d.toNat < l43264d.length)) <|
 chk (decide ((0 : Int) ≤ t10d)) <|
 chk (decide (t10d < (l43264d.length : Int))) <|
 chk (decide (t10d.toNat < l43264d.length)) <|
 let y43264 : List Int := l43264d.set t10d.toNat (IntKind.u8.wrap ((l43264d.getD t10d.toNat 0) + (128 : Int)))
 k5 (IntKind.i64.wrap (t10d + (1 : Int)), l40192d, y43264, l1012288d))
 else (x6 (l40192d, l43264d, l1012288d)))
 N (0, l40192c, l43264c, l1008192c) (U3 fun l40192e l43264e l1016384e =>
 chk (decide ((l1016384e.length + l43264e.length) * 2 ≤ 140737488355328)) <|
 k1 (IntKind.i64.wrap (t32a + (1 : Int)), l40192e, l1016384e ++ l43264e))))
 else (x2 l1000000a))
 N (0, ([x25] : List Int) ++ (cutL r13.1 2 r13.1.length), ([] : List Int)) (fun l1020480f =>
 chk (List.all l1020480f isByte) <|
 some (List.map byteOf l1020480f, 0)))

-- certpath/certpathref07.OID
abbrev ref07_OID_O : Type := Bs
def ref07_OID (N : Nat) (p0 : Bs) : Option ref07_OID_O :=
 callO (ref01_EncodeOID N p0) fun r7 =>
 callO (ref07_Wrap N 6 ([r7.1] : List Bs)) fun r12 =>
 some r12

-- certpath/certpathref07.attributes
abbrev ref07_attributes_O : Type := List Bs
def ref07_attributes (N : Nat) (p0 : Yq2) : Option ref07_attributes_O :=
 iterG (X := Int × List Bs) (Y := (List Bs)) (U2 fun t8a l1000000a k1 x2 =>
 bif decide (t8a < (p0.length : Int)) then (chk (decide ((0 : Int) ≤ t8a)) <|
 chk (decide (t8a < (p0.length : Int))) <|
 callO (ref07_OID N ((p0.getD t8a.toNat (([] : Bs), 0, ([] : Bs))).1)) fun r15 =>
 callO (ref07_Wrap N ((p0.getD t8a.toNat (([] : Bs), 0, ([] : Bs))).2.1) ([(p0.getD t8a.toNat (([] : Bs), 0, ([] : Bs))).2.2] : List Bs)) fun r21 =>
 callO (ref07_Wrap N 48 ([r15, r21] : List Bs)) fun r23 =>
 chk (decide ((l1000000a.length + 1) * 17 ≤ 140737488355328)) <|
 k1 (IntKind.i64.wrap (t8a + (1 : Int)), l1000000a ++ ([r23] : List Bs)))
 else (x2 l1000000a))
 N (0, ([] : List Bs)) (fun l1004096b =>
 some l1004096b)

-- certpath/certpathref07.EncodeName
abbrev ref07_EncodeName_O : Type := Bs × Int
def ref07_EncodeName (N : Nat) (p0 : List Yq2) : Option ref07_EncodeName_O :=
 callO (ref07_CheckName N p0) fun r9 =>
 bif (r9 != (0 : Int)) then (some (([] : Bs), r9))
 else (iterG (X := Bs × Int) (Y := Bs) (U2 fun t5a t16a k1 x2 =>
 bif decide (t16a < (p0.length : Int)) then (chk (decide ((0 : Int) ≤ t16a)) <|
 chk (decide (t16a < (p0.length : Int))) <|
 callO (ref07_attributes N (p0.getD t16a.toNat ([] : List (Bs × Int × Bs)))) fun r22 =>
 callO (ref01_Order N r22) fun r23 =>
 callO (ref07_Wrap N 49 ([r23] : List Bs)) fun r25 =>
 chk (decide (t5a.length + r25.length ≤ 140737488355328)) <|
 k1 (t5a ++ r25, IntKind.i64.wrap (t16a + (1 : Int))))
 else (x2 t5a))
 N (([] : Bs), 0) (fun t5b =>
 callO (ref07_Wrap N 48 ([t5b] : List Bs)) fun r30 =>
 some (r30, 0)))

-- certpath/certpathref01.before
abbrev ref01_before_O : Type := Int
def ref01_before (N : Nat) (p0 : Int) : Option ref01_before_O :=
 let x10 : Int := IntKind.i64.wrap ((IntKind.i64.wrap ((IntKind.i64.wrap (p0 - (1 : Int))).tdiv 4)) - (IntKind.i64.wrap ((IntKind.i64.wrap (p0 - (1 : Int))).tdiv 100)))
 let x14 : Int := IntKind.i64.wrap (x10 + (IntKind.i64.wrap ((IntKind.i64.wrap (p0 - (1 : Int))).tdiv 400)))
 let x17 : Int := IntKind.i64.wrap ((365 : Int) * (IntKind.i64.wrap (p0 - (1950 : Int))))
 some (IntKind.i64.wrap ((IntKind.i64.wrap (x17 + x14)) - (472 : Int)))

-- certpath/certpathref01.days
abbrev ref01_days_O : Type := Int
def ref01_days (N : Nat) (p0 : Int) (p1 : Int) : Option ref01_days_O :=
 chk (((p1 == (2 : Int)) || (!(p1 == (2 : Int))))) <|
 chk (((p1 == (2 : Int)) || (!(p1 == (2 : Int))))) <|
 chk (bif (p1 == (2 : Int)) then (p1 == (2 : Int)) else true) <|
 chk (bif (p1 == (2 : Int)) then true else true) <|
 chk (((bif (p1 == (2 : Int)) then ((p0.tmod 4) == (0 : Int)) else false) || (!(bif (p1 == (2 : Int)) then ((p0.tmod 4) == (0 : Int)) else false)))) <|
 chk (((bif (p1 == (2 : Int)) then ((p0.tmod 4) == (0 : Int)) else false) || (!(bif (p1 == (2 : Int)) then ((p0.tmod 4) == (0 : Int)) else false)))) <|
 chk (((bif (p1 == (2 : Int)) then ((p0.tmod 4) == (0 : Int)) else false) || (!(bif (p1 == (2 : Int)) then ((p0.tmod 4) == (0 : Int)) else false)))) <|
 chk ((((bif (p1 == (2 : Int)) then ((p0.tmod 4) == (0 : Int)) else false) && (!((p0.tmod 100) != (0 : Int)))) || (!((bif (p1 == (2 : Int)) then ((p0.tmod 4) == (0 : Int)) else false) && (!((p0.tmod 100) != (0 : Int))))))) <|
 chk ((((bif (p1 == (2 : Int)) then ((p0.tmod 4) == (0 : Int)) else false) && (!((p0.tmod 100) != (0 : Int)))) || (!((bif (p1 == (2 : Int)) then ((p0.tmod 4) == (0 : Int)) else false) && (!((p0.tmod 100) != (0 : Int))))))) <|
 chk (((bif (p1 == (2 : Int)) then ((p0.tmod 4) == (0 : Int)) else false) || (!(bif (p1 == (2 : Int)) then ((p0.tmod 4) == (0 : Int)) else false)))) <|
 chk (((bif ((p0.tmod 100) != (0 : Int)) then true else ((bif (p1 == (2 : Int)) then ((p0.tmod 4) == (0 : Int)) else false) && (!((p0.tmod 100) != (0 : Int))))) || (!(bif (p1 == (2 : Int)) then ((p0.tmod 4) == (0 : Int)) else false)))) <|
 chk (((bif ((p0.tmod 100) != (0 : Int)) then true else true) || (!(bif (p1 == (2 : Int)) then ((p0.tmod 4) == (0 : Int)) else false)))) <|
 let x20 : Bool := bif ((p0.tmod 100) != (0 : Int)) then true else ((p0.tmod 400) == (0 : Int))
 chk (bif bif (p1 == (2 : Int)) then ((p0.tmod 4) == (0 : Int)) else false then bif (p1 == (2 : Int)) then ((p0.tmod 4) == (0 : Int)) else false else true) <|
 chk (bif bif (p1 == (2 : Int)) then ((p0.tmod 4) == (0 : Int)) else false then true else true) <|
 let x21 : Bool := bif bif (p1 == (2 : Int)) then ((p0.tmod 4) == (0 : Int)) else false then x20 else false
 bif x21 then (some 29)
 else (chk (decide ((0 : Int) ≤ IntKind.i64.wrap (p1 - (1 : Int)))) <|
 chk (decide (IntKind.i64.wrap (p1 - (1 : Int)) < (12 : Int))) <|
 chk (decide ((IntKind.i64.wrap (p1 - (1 : Int))).toNat < 12)) <|
 let x26 : Int := (([31, 28, 31, 30, 31, 30, 31, 31, 30, 31, 30, 31] : List Int).getD ((IntKind.i64.wrap (p1 - (1 : Int))).toNat) 0)
 some x26)

-- certpath/certpathref01.Civil
abbrev ref01_Civil_O : Type := Yq8 × Int
def ref01_Civil (N : Nat) (p0 : Int) : Option ref01_Civil_O :=
 chk (((!(decide (p0 < (0 : Int)))) || (!(!(decide (p0 < (0 : Int))))))) <|
 chk (bif decide (p0 < (0 : Int)) then true else !(decide (p0 < (0 : Int)))) <|
 chk (bif decide (p0 < (0 : Int)) then true else true) <|
 let x12 : Bool := bif decide (p0 < (0 : Int)) then true else decide (p0 > (254033452799 : Int))
 bif x12 then (some ((0, 0, 0, 0, 0, 0), 1))
 else (let x18 : Int := IntKind.i64.wrap ((1950 : Int) + (IntKind.i64.wrap ((IntKind.i64.wrap (p0.tdiv 86400)).tdiv 366)))
 iterG (X := Int) (Y := Int) (fun t5a k1 x2 =>
 callO (ref01_before N (IntKind.i64.wrap (t5a + (1 : Int)))) fun r21 =>
 bif decide (r21 ≤ (IntKind.i64.wrap (p0.tdiv 86400))) then (k1 (IntKind.i64.wrap (t5a + (1 : Int))))
 else (x2 t5a))
 N x18 (fun t5b =>
 callO (ref01_before N t5b) fun r28 =>
 iterG (X := Int × Int) (Y := (Int × Int)) (U2 fun t4c t6c k3 x4 =>
 callO (ref01_days N t5b t6c) fun r33 =>
 bif decide (t4c ≥ r33) then (callO (ref01_days N t5b t6c) fun r38 =>
 k3 (IntKind.i64.wrap (t4c - r38), IntKind.i64.wrap (t6c + (1 : Int))))
 else (x4 (t4c, t6c)))
 N (IntKind.i64.wrap ((IntKind.i64.wrap (p0.tdiv 86400)) - r28), 1) (U2 fun t4d t6d =>
 some ((t5b, t6d, IntKind.i64.wrap (t4d + (1 : Int)), (IntKind.i64.wrap (p0.tdiv 3600)).tmod 24, (IntKind.i64.wrap (p0.tdiv 60)).tmod 60, p0.tmod 60), 0))))

-- certpath/certpathref01.Dec
abbrev ref01_Dec_O : Type := Bs
def ref01_Dec_body (N : Nat) (F : Int → Option ref01_Dec_O) (p0 : Int) : Option ref01_Dec_O :=
 bif decide (p0 < (10 : Int)) then (chk (List.all ([IntKind.u8.wrap (IntKind.i64.wrap ((48 : Int) + p0))] : List Int) isByte) <|
 let x9 : Bs := List.map byteOf ([IntKind.u8.wrap (IntKind.i64.wrap ((48 : Int) + p0))] : List Int)
 some x9)
 else (callO (F (IntKind.i64.wrap (p0.tdiv 10))) fun r12 =>
 chk (List.all ([IntKind.u8.wrap (IntKind.i64.wrap ((48 : Int) + (p0.tmod 10)))] : List Int) isByte) <|
 let x18 : Bs := List.map byteOf ([IntKind.u8.wrap (IntKind.i64.wrap ((48 : Int) + (p0.tmod 10)))] : List Int)
 chk (decide (r12.length + x18.length ≤ 140737488355328)) <|
 some (r12 ++ x18))
def ref01_Dec (N : Nat) : Nat → Int → Option ref01_Dec_O
  | 0 => fun p0 => none
  | n + 1 => fun p0 => ref01_Dec_body N (ref01_Dec N n) p0

-- certpath/certpathref01.pad
abbrev ref01_pad_O : Type := Bs
def ref01_pad (N : Nat) (p0 : Int) (p1 : Int) : Option ref01_pad_O :=
 callO (ref01_Dec N N p0) fun r7 =>
 iterG (X := Bs) (Y := Bs) (fun t5a k1 x2 =>
 bif decide ((t5a.length : Int) < p1) then (chk (decide (1 + t5a.length ≤ 140737488355328)) <|
 k1 (([48] : Bs) ++ t5a))
 else (x2 t5a))
 N r7 (fun t5b =>
 some t5b)

-- certpath/certpathref01.EncodeTime
abbrev ref01_EncodeTime_O : Type := Bs × Int
def ref01_EncodeTime (N : Nat) (p0 : Int) : Option ref01_EncodeTime_O :=
 callO (ref01_Civil N p0) fun r9 =>
 bif (r9.2 != (0 : Int)) then (some (([] : Bs), r9.2))
 else (callO (ref01_pad N r9.1.2.1 2) fun r17 =>
 callO (ref01_pad N r9.1.2.2.1 2) fun r20 =>
 chk (decide (r17.length + r20.length ≤ 140737488355328)) <|
 callO (ref01_pad N r9.1.2.2.2.1 2) fun r24 =>
 chk (decide ((r17 ++ r20).length + r24.length ≤ 140737488355328)) <|
 callO (ref01_pad N r9.1.2.2.2.2.1 2) fun r28 =>
 chk (decide (((r17 ++ r20) ++ r24).length + r28.length ≤ 140737488355328)) <|
 callO (ref01_pad N r9.1.2.2.2.2.2 2) fun r32 =>
 chk (decide ((((r17 ++ r20) ++ r24) ++ r28).length + r32.length ≤ 140737488355328)) <|
 chk (decide (((((r17 ++ r20) ++ r24) ++ r28) ++ r32).length + 1 ≤ 140737488355328)) <|
 bif decide (r9.1.1 < (2050 : Int)) then (callO (ref01_pad N (r9.1.1.tmod 100) 2) fun r41 =>
 chk (decide (r41.length + (((((r17 ++ r20) ++ r24) ++ r28) ++ r32) ++ ([90] : Bs)).length ≤ 140737488355328)) <|
 callO (ref01_Wrap N 23 ([r41 ++ (((((r17 ++ r20) ++ r24) ++ r28) ++ r32) ++ ([90] : Bs))] : List Bs)) fun r45 =>
 some (r45.1, r45.2))
 else (callO (ref01_pad N r9.1.1 4) fun r50 =>
 chk (decide (r50.length + (((((r17 ++ r20) ++ r24) ++ r28) ++ r32) ++ ([90] : Bs)).length ≤ 140737488355328)) <|
 callO (ref01_Wrap N 24 ([r50 ++ (((((r17 ++ r20) ++ r24) ++ r28) ++ r32) ++ ([90] : Bs))] : List Bs)) fun r54 =>
 some (r54.1, r54.2)))

-- certpath/certpathref01.PutInteger
abbrev ref01_PutInteger_O : Type := Bs
def ref01_PutInteger (N : Nat) (p0 : Int) : Option ref01_PutInteger_O :=
 iterG (X := Int × List Int) (Y := (List Int)) (U2 fun t5a l1000000a k1 x2 =>
 bif decide (t5a ≥ (0 : Int)) then (chk (decide ((0 : Int) ≤ IntKind.i64.wrap ((8 : Int) * t5a))) <|
 let x16 : Int := (IntKind.u64.wrap p0).fdiv (2 ^ (min (IntKind.i64.wrap ((8 : Int) * t5a)).toNat 64))
 chk (decide ((l1000000a.length + 1) * 2 ≤ 140737488355328)) <|
 k1 (IntKind.i64.wrap (t5a - (1 : Int)), l1000000a ++ ([IntKind.u8.wrap x16] : List Int)))
 else (x2 l1000000a))
 N (7, ([] : List Int)) (fun l1000000b =>
 iterG (X := List Int) (Y := (List Int)) (fun t4c k3 x4 =>
 chk (((decide ((t4c.length : Int) > (1 : Int))) || (!(decide ((t4c.length : Int) > (1 : Int)))))) <|
 chk (((decide ((0 : Int) < (t4c.length : Int))) || (!(decide ((t4c.length : Int) > (1 : Int)))))) <|
 chk (((decide ((t4c.length : Int) > (1 : Int))) || (!(decide ((t4c.length : Int) > (1 : Int)))))) <|
 chk (((decide ((t4c.length : Int) > (1 : Int))) || (!(decide ((t4c.length : Int) > (1 : Int)))))) <|
 chk (((decide ((t4c.length : Int) > (1 : Int))) || (!(decide ((t4c.length : Int) > (1 : Int)))))) <|
 chk ((((decide ((t4c.length : Int) > (1 : Int))) && ((t4c.getD 0 0) == (0 : Int))) || (!((decide ((t4c.length : Int) > (1 : Int))) && ((t4c.getD 0 0) == (0 : Int)))))) <|
 chk (((decide ((1 : Int) < (t4c.length : Int))) || (!((decide ((t4c.length : Int) > (1 : Int))) && ((t4c.getD 0 0) == (0 : Int)))))) <|
 chk ((((decide ((t4c.length : Int) > (1 : Int))) && ((t4c.getD 0 0) == (0 : Int))) || (!((decide ((t4c.length : Int) > (1 : Int))) && ((t4c.getD 0 0) == (0 : Int)))))) <|
 chk ((((decide ((t4c.length : Int) > (1 : Int))) && ((t4c.getD 0 0) == (0 : Int))) || (!((decide ((t4c.length : Int) > (1 : Int))) && ((t4c.getD 0 0) == (0 : Int)))))) <|
 chk (((decide ((t4c.length : Int) > (1 : Int))) || (!(decide ((t4c.length : Int) > (1 : Int)))))) <|
 chk (((bif ((t4c.getD 0 0) == (0 : Int)) then ((decide ((t4c.length : Int) > (1 : Int))) && ((t4c.getD 0 0) == (0 : Int))) else true) || (!(decide ((t4c.length : Int) > (1 : Int)))))) <|
 chk (((bif ((t4c.getD 0 0) == (0 : Int)) then true else true) || (!(decide ((t4c.length : Int) > (1 : Int)))))) <|
 let x33 : Bool := bif ((t4c.getD 0 0) == (0 : Int)) then decide ((t4c.getD 1 0) < (128 : Int)) else false
 chk (((decide ((t4c.length : Int) > (1 : Int))) || (!(decide ((t4c.length : Int) > (1 : Int)))))) <|
 chk ((((decide ((t4c.length : Int) > (1 : Int))) && (!x33)) || (!((decide ((t4c.length : Int) > (1 : Int))) && (!x33))))) <|
 chk (((decide ((0 : Int) < (t4c.length : Int))) || (!((decide ((t4c.length : Int) > (1 : Int))) && (!x33))))) <|
 chk ((((decide ((t4c.length : Int) > (1 : Int))) && (!x33)) || (!((decide ((t4c.length : Int) > (1 : Int))) && (!x33))))) <|
 chk ((((decide ((t4c.length : Int) > (1 : Int))) && (!x33)) || (!((decide ((t4c.length : Int) > (1 : Int))) && (!x33))))) <|
 chk ((((decide ((t4c.length : Int) > (1 : Int))) && (!x33)) || (!((decide ((t4c.length : Int) > (1 : Int))) && (!x33))))) <|
 chk (((((decide ((t4c.length : Int) > (1 : Int))) && (!x33)) && ((t4c.getD 0 0) == (255 : Int))) || (!(((decide ((t4c.length : Int) > (1 : Int))) && (!x33)) && ((t4c.getD 0 0) == (255 : Int)))))) <|
 chk (((decide ((1 : Int) < (t4c.length : Int))) || (!(((decide ((t4c.length : Int) > (1 : Int))) && (!x33)) && ((t4c.getD 0 0) == (255 : Int)))))) <|
 chk (((((decide ((t4c.length : Int) > (1 : Int))) && (!x33)) && ((t4c.getD 0 0) == (255 : Int))) || (!(((decide ((t4c.length : Int) > (1 : Int))) && (!x33)) && ((t4c.getD 0 0) == (255 : Int)))))) <|
 chk (((((decide ((t4c.length : Int) > (1 : Int))) && (!x33)) && ((t4c.getD 0 0) == (255 : Int))) || (!(((decide ((t4c.length : Int) > (1 : Int))) && (!x33)) && ((t4c.getD 0 0) == (255 : Int)))))) <|
 chk ((((decide ((t4c.length : Int) > (1 : Int))) && (!x33)) || (!((decide ((t4c.length : Int) > (1 : Int))) && (!x33))))) <|
 chk (((bif ((t4c.getD 0 0) == (255 : Int)) then (((decide ((t4c.length : Int) > (1 : Int))) && (!x33)) && ((t4c.getD 0 0) == (255 : Int))) else true) || (!((decide ((t4c.length : Int) > (1 : Int))) && (!x33))))) <|
 chk (((bif ((t4c.getD 0 0) == (255 : Int)) then true else true) || (!((decide ((t4c.length : Int) > (1 : Int))) && (!x33))))) <|
 let x44 : Bool := bif ((t4c.getD 0 0) == (255 : Int)) then decide ((t4c.getD 1 0) ≥ (128 : Int)) else false
 chk (((decide ((t4c.length : Int) > (1 : Int))) || (!(decide ((t4c.length : Int) > (1 : Int)))))) <|
 chk (((bif x33 then true else ((decide ((t4c.length : Int) > (1 : Int))) && (!x33))) || (!(decide ((t4c.length : Int) > (1 : Int)))))) <|
 chk (((bif x33 then true else true) || (!(decide ((t4c.length : Int) > (1 : Int)))))) <|
 chk (bif decide ((t4c.length : Int) > (1 : Int)) then decide ((t4c.length : Int) > (1 : Int)) else true) <|
 chk (bif decide ((t4c.length : Int) > (1 : Int)) then true else true) <|
 let x46 : Bool := bif decide ((t4c.length : Int) > (1 : Int)) then bif x33 then true else x44 else false
 bif x46 then (chk (decide ((1 : Int) ≤ (t4c.length : Int))) <|
 k3 (cutL t4c 1 t4c.length))
 else (x4 t4c))
 N l1000000b (fun t4d =>
 chk (List.all t4d isByte) <|
 some (List.map byteOf t4d)))

-- certpath/certpathref14.number
abbrev ref14_number_O : Type := Bs
def ref14_number (N : Nat) (p0 : Int) (p1 : Int) : Option ref14_number_O :=
 callO (ref01_PutInteger N p1) fun r7 =>
 callO (ref07_Wrap N p0 ([r7] : List Bs)) fun r9 =>
 some r9

-- certpath/certpathref07.EncodeGeneral
abbrev ref07_EncodeGeneral_O : Type := Bs × Int
def ref07_EncodeGeneral (N : Nat) (p0 : Yq3) (p1 : Bool) : Option ref07_EncodeGeneral_O :=
 callO (ref07_CheckGeneral N p0 p1) fun r11 =>
 bif (r11 != (0 : Int)) then (some (([] : Bs), r11))
 else (bif (p0.1 == (4 : Int)) then (callO (ref07_EncodeName N p0.2.2) fun r21 =>
 callO (ref07_Wrap N (IntKind.i64.wrap ((160 : Int) + p0.1)) ([r21.1] : List Bs)) fun r29 =>
 some (r29, 0))
 else (callO (ref07_Wrap N (IntKind.i64.wrap ((128 : Int) + p0.1)) ([p0.2.1] : List Bs)) fun r36 =>
 some (r36, 0)))

-- certpath/certpathref07.EncodeList
abbrev ref07_EncodeList_O : Type := Bs × Int
def ref07_EncodeList (N : Nat) (p0 : List Yq3) : Option ref07_EncodeList_O :=
 bif ((p0.length : Int) == (0 : Int)) then (some (([] : Bs), 7))
 else (bif decide ((p0.length : Int) > (16 : Int)) then (some (([] : Bs), 2))
 else (iterG (X := Bs × Int) (Y := Bs) (U2 fun t4a t17a k1 x2 =>
 bif decide (t17a < (p0.length : Int)) then (chk (decide ((0 : Int) ≤ t17a)) <|
 chk (decide (t17a < (p0.length : Int))) <|
 callO (ref07_EncodeGeneral N (p0.getD t17a.toNat (0, ([] : Bs), ([] : List Yq2))) false) fun r23 =>
 bif (r23.2 != (0 : Int)) then (some (([] : Bs), r23.2))
 else (chk (decide (t4a.length + r23.1.length ≤ 140737488355328)) <|
 k1 (t4a ++ r23.1, IntKind.i64.wrap (t17a + (1 : Int)))))
 else (x2 t4a))
 N (([] : Bs), 0) (fun t4b =>
 some (t4b, 0))))

-- certpath/certpathref14.directory
abbrev ref14_directory_O : Type := Bs
def ref14_directory (N : Nat) (p0 : List Yq2) : Option ref14_directory_O :=
 callO (ref07_EncodeList N ([(4, ([] : Bs), p0)] : List Yq3)) fun r9 =>
 some r9.1

-- certpath/certpathref07.Fit
abbrev ref07_Fit_O : Type := Bs × Int
def ref07_Fit (N : Nat) (p0 : Int) (p1 : List Bs) : Option ref07_Fit_O :=
 callO (ref01_Wrap N p0 p1) fun r11 =>
 bif (r11.2 != (0 : Int)) then (some (([] : Bs), 2))
 else (some (r11.1, 0))

-- certpath/certpathref01.Read
abbrev ref01_Read_O : Type := (Int × Bs × Bs) × Bs × Int
def ref01_Read (N : Nat) (p0 : Bs) : Option ref01_Read_O :=
 bif ((p0.length : Int) == (0 : Int)) then (some ((0, ([] : Bs), ([] : Bs)), ([] : Bs), 3))
 else (chk (decide ((0 : Int) < (p0.length : Int))) <|
 bif ((((p0.getD 0 0).toNat : Int).tmod 32) == (31 : Int)) then (some ((0, ([] : Bs), ([] : Bs)), ([] : Bs), 5))
 else (bif ((p0.length : Int) == (1 : Int)) then (some ((0, ([] : Bs), ([] : Bs)), ([] : Bs), 3))
 else (chk (decide ((1 : Int) < (p0.length : Int))) <|
 chk (((!((IntKind.i64.wrap ((p0.getD 1 0).toNat : Int)) == (128 : Int))) || (!(!((IntKind.i64.wrap ((p0.getD 1 0).toNat : Int)) == (128 : Int)))))) <|
 chk (bif ((IntKind.i64.wrap ((p0.getD 1 0).toNat : Int)) == (128 : Int)) then true else !((IntKind.i64.wrap ((p0.getD 1 0).toNat : Int)) == (128 : Int))) <|
 chk (bif ((IntKind.i64.wrap ((p0.getD 1 0).toNat : Int)) == (128 : Int)) then true else true) <|
 let x33 : Bool := bif ((IntKind.i64.wrap ((p0.getD 1 0).toNat : Int)) == (128 : Int)) then true else decide ((IntKind.i64.wrap ((p0.getD 1 0).toNat : Int)) > (131 : Int))
 bif x33 then (some ((0, ([] : Bs), ([] : Bs)), ([] : Bs), 6))
 else (letJ (α := Int × Int) (fun j1 =>
 bif decide ((IntKind.i64.wrap ((p0.getD 1 0).toNat : Int)) > (128 : Int)) then (let x38 : Int := IntKind.i64.wrap ((IntKind.i64.wrap ((p0.getD 1 0).toNat : Int)) - (128 : Int))
 bif decide ((p0.length : Int) < (IntKind.i64.wrap ((2 : Int) + x38))) then (some ((0, ([] : Bs), ([] : Bs)), ([] : Bs), 3))
 else (iterG (X := Int × Int) (Y := Int) (U2 fun t6b t9b k2 x3 =>
 bif decide (t9b < x38) then (chk (decide ((0 : Int) ≤ IntKind.i64.wrap ((2 : Int) + t9b))) <|
 chk (decide (IntKind.i64.wrap ((2 : Int) + t9b) < (p0.length : Int))) <|
 let x56 : Int := IntKind.i64.wrap ((p0.getD ((IntKind.i64.wrap ((2 : Int) + t9b)).toNat) 0).toNat : Int)
 k2 (IntKind.i64.wrap ((IntKind.i64.wrap ((256 : Int) * t6b)) + x56), IntKind.i64.wrap (t9b + (1 : Int))))
 else (x3 t6b))
 N (0, 0) (fun t6c =>
 chk (decide ((0 : Int) ≤ x38)) <|
 chk (decide (x38 < (4 : Int))) <|
 chk (decide (x38.toNat < 4)) <|
 chk (((!(decide (t6c < (([0, 128, 256, 65536] : List Int).getD x38.toNat 0)))) || (!(!(decide (t6c < (([0, 128, 256, 65536] : List Int).getD x38.toNat 0))))))) <|
 chk (bif decide (t6c < (([0, 128, 256, 65536] : List Int).getD x38.toNat 0)) then true else !(decide (t6c < (([0, 128, 256, 65536] : List Int).getD x38.toNat 0)))) <|
 chk (bif decide (t6c < (([0, 128, 256, 65536] : List Int).getD x38.toNat 0)) then true else true) <|
 let x70 : Bool := bif decide (t6c < (([0, 128, 256, 65536] : List Int).getD x38.toNat 0)) then true else decide (t6c > (131072 : Int))
 bif x70 then (some ((0, ([] : Bs), ([] : Bs)), ([] : Bs), 6))
 else (j1 (t6c, IntKind.i64.wrap ((2 : Int) + x38))))))
 else (j1 (IntKind.i64.wrap ((p0.getD 1 0).toNat : Int), 2)))
 (U2 fun t6a t7a =>
 bif decide ((IntKind.i64.wrap ((p0.length : Int) - t7a)) < t6a) then (some ((0, ([] : Bs), ([] : Bs)), ([] : Bs), 3))
 else (chk (decide ((0 : Int) < (p0.length : Int))) <|
 chk (decide ((0 : Int) ≤ t7a)) <|
 chk (decide (t7a ≤ IntKind.i64.wrap (t7a + t6a))) <|
 chk (decide (IntKind.i64.wrap (t7a + t6a) ≤ (p0.length : Int))) <|
 chk (decide ((0 : Int) ≤ IntKind.i64.wrap (t7a + t6a))) <|
 chk (decide (IntKind.i64.wrap (t7a + t6a) ≤ (p0.length : Int))) <|
 chk (decide ((0 : Int) ≤ IntKind.i64.wrap (t7a + t6a))) <|
 chk (decide (IntKind.i64.wrap (t7a + t6a) ≤ (p0.length : Int))) <|
 some ((IntKind.i64.wrap ((p0.getD 0 0).toNat : Int), cutL p0 t7a.toNat ((IntKind.i64.wrap (t7a + t6a)).toNat), cutL p0 0 ((IntKind.i64.wrap (t7a + t6a)).toNat)), cutL p0 ((IntKind.i64.wrap (t7a + t6a)).toNat) p0.length, 0)))))))

end Go.Proofs.YtnllccjmbijjlaaGreat.Vm
