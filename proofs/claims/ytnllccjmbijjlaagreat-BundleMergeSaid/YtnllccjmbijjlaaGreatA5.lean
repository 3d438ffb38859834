/-
  The law BundleMerge returns true for every input. (part 5 of 6.)
-/
import Derived.Test.YtnllccjmbijjlaaGreatA4
set_option linter.unusedVariables false
set_option linter.unusedSimpArgs false
namespace Go.Proofs.YtnllccjmbijjlaaGreat.Vm
open Go.Proofs
-- certpath/certpathref01.One
abbrev ref01_One_O : Type := (Int × Bs × Bs) × Int
def ref01_One (N : Nat) (p0 : Bs) : Option ref01_One_O :=
 callO (ref01_Read N p0) fun r9 =>
 bif (r9.2.2 != (0 : Int)) then (some ((0, ([] : Bs), ([] : Bs)), r9.2.2))
 else (bif decide ((r9.2.1.length : Int) > (0 : Int)) then (some ((0, ([] : Bs), ([] : Bs)), 4))
 else (some (r9.1, 0)))

-- certpath/certpathref01.check
abbrev ref01_check_O : Type := Int
def ref01_check_body (N : Nat) (F : (Int × Bs × Bs) → Int → Option ref01_check_O) (p0 : Int × Bs × Bs) (p1 : Int) : Option ref01_check_O :=
 bif (((IntKind.i64.wrap (p0.1.tdiv 32)).tmod 2) == (0 : Int)) then (some 0)
 else (iterG (X := Bs) (Y := Unit) (fun t5a k1 x2 =>
 bif decide ((t5a.length : Int) > (0 : Int)) then (callO (ref01_Read N t5a) fun r22 =>
 bif (r22.2.2 != (0 : Int)) then (some r22.2.2)
 else (bif decide ((IntKind.i64.wrap (p1 + (1 : Int))) ≥ (16 : Int)) then (some 8)
 else (callO (F r22.1 (IntKind.i64.wrap (p1 + (1 : Int)))) fun r35 =>
 bif (r35 != (0 : Int)) then (some r35)
 else (k1 r22.2.1))))
 else (x2 ()))
 N p0.2.1 (fun _ =>
 some 0))
def ref01_check (N : Nat) : Nat → (Int × Bs × Bs) → Int → Option ref01_check_O
  | 0 => fun p0 p1 => none
  | n + 1 => fun p0 p1 => ref01_check_body N (ref01_check N n) p0 p1

-- certpath/certpathref01.Check
abbrev ref01_Check_O : Type := Int
def ref01_Check (N : Nat) (p0 : Bs) : Option ref01_Check_O :=
 callO (ref01_One N p0) fun r7 =>
 bif (r7.2 != (0 : Int)) then (some r7.2)
 else (callO (ref01_check N N r7.1 0) fun r14 =>
 some r14)

-- certpath/certpathref14.Find
abbrev ref14_Find_O : Type := (Bs × Bool × Bs) × Bool
def ref14_Find (N : Nat) (p0 : Yq9) (p1 : Bs) : Option ref14_Find_O :=
 iterG (X := Int) (Y := Unit) (fun t10a k1 x2 =>
 bif decide (t10a < (p0.length : Int)) then (chk (decide ((0 : Int) ≤ t10a)) <|
 chk (decide (t10a < (p0.length : Int))) <|
 bif (((p0.getD t10a.toNat (([] : Bs), false, ([] : Bs))).1) == p1) then (some ((p0.getD t10a.toNat (([] : Bs), false, ([] : Bs))), true))
 else (k1 (IntKind.i64.wrap (t10a + (1 : Int)))))
 else (x2 ()))
 N 0 (fun _ =>
 some ((([] : Bs), false, ([] : Bs)), false))

-- certpath/certpathref14.checkEach
abbrev ref14_checkEach_O : Type := Int
def ref14_checkEach (N : Nat) (p0 : Yq9) : Option ref14_checkEach_O :=
 iterG (X := Int) (Y := Unit) (fun t10a k1 x2 =>
 bif decide (t10a < (p0.length : Int)) then (chk (decide ((0 : Int) ≤ t10a)) <|
 chk (decide (t10a < (p0.length : Int))) <|
 callO (ref01_ValidOID N ((p0.getD t10a.toNat (([] : Bs), false, ([] : Bs))).1)) fun r17 =>
 bif !r17 then (some 11)
 else (chk (decide ((0 : Int) ≤ t10a)) <|
 chk (decide (t10a ≤ (p0.length : Int))) <|
 callO (ref14_Find N (cutL p0 0 t10a.toNat) ((p0.getD t10a.toNat (([] : Bs), false, ([] : Bs))).1)) fun r25 =>
 bif r25.2 then (some 10)
 else (callO (ref01_Check N ((p0.getD t10a.toNat (([] : Bs), false, ([] : Bs))).2.2)) fun r31 =>
 bif (r31 != (0 : Int)) then (some r31)
 else (k1 (IntKind.i64.wrap (t10a + (1 : Int)))))))
 else (x2 ()))
 N 0 (fun _ =>
 some 0)

-- certpath/certpathref14.CheckExtensions
abbrev ref14_CheckExtensions_O : Type := Int
def ref14_CheckExtensions (N : Nat) (p0 : Yq9) : Option ref14_CheckExtensions_O :=
 bif ((p0.length : Int) == (0 : Int)) then (some 7)
 else (bif decide ((p0.length : Int) > (24 : Int)) then (some 2)
 else (callO (ref14_checkEach N p0) fun r10 =>
 some r10))

-- certpath/certpathref01.PutBoolean
abbrev ref01_PutBoolean_O : Type := Bs
def ref01_PutBoolean (N : Nat) (p0 : Bool) : Option ref01_PutBoolean_O :=
 bif p0 then (some ([255] : Bs))
 else (some ([0] : Bs))

-- certpath/certpathref14.EncodeExtensions
abbrev ref14_EncodeExtensions_O : Type := Bs × Int
def ref14_EncodeExtensions (N : Nat) (p0 : Yq9) : Option ref14_EncodeExtensions_O :=
 callO (ref14_CheckExtensions N p0) fun r13 =>
 bif (r13 != (0 : Int)) then (some (([] : Bs), r13))
 else (iterG (X := Bs × Int) (Y := Bs) (U2 fun t5a t19a k1 x2 =>
 bif decide (t19a < (p0.length : Int)) then (chk (decide ((0 : Int) ≤ t19a)) <|
 chk (decide (t19a < (p0.length : Int))) <|
 letJ (α := Bs × Bs × Bool × Bs) (fun j3 =>
 bif (p0.getD t19a.toNat (([] : Bs), false, ([] : Bs))).2.1 then (callO (ref01_PutBoolean N true) fun r25 =>
 callO (ref07_Wrap N 1 ([r25] : List Bs)) fun r27 =>
 j3 (r27, (p0.getD t19a.toNat (([] : Bs), false, ([] : Bs))).1, (p0.getD t19a.toNat (([] : Bs), false, ([] : Bs))).2.1, (p0.getD t19a.toNat (([] : Bs), false, ([] : Bs))).2.2))
 else (j3 (([] : Bs), (p0.getD t19a.toNat (([] : Bs), false, ([] : Bs))).1, (p0.getD t19a.toNat (([] : Bs), false, ([] : Bs))).2.1, (p0.getD t19a.toNat (([] : Bs), false, ([] : Bs))).2.2)))
 (U4 fun t8b b34560_0b b34560_1b b34560_2b =>
 callO (ref07_Fit N 4 ([b34560_2b] : List Bs)) fun r32 =>
 bif (r32.2 != (0 : Int)) then (some (([] : Bs), r32.2))
 else (callO (ref07_OID N b34560_0b) fun r41 =>
 callO (ref07_Fit N 48 ([r41, t8b, r32.1] : List Bs)) fun r45 =>
 bif (r45.2 != (0 : Int)) then (some (([] : Bs), r45.2))
 else (chk (decide (t5a.length + r45.1.length ≤ 140737488355328)) <|
 k1 (t5a ++ r45.1, IntKind.i64.wrap (t19a + (1 : Int)))))))
 else (x2 t5a))
 N (([] : Bs), 0) (fun t5c =>
 callO (ref07_Fit N 48 ([t5c] : List Bs)) fun r57 =>
 some (r57.1, r57.2)))

-- certpath/certpathref14.entry
abbrev ref14_entry_O : Type := Bs
def ref14_entry (N : Nat) (p0 : Yq6) (p1 : List Yq2) : Option ref14_entry_O :=
 letJ (α := Int × Int × Int × Int × List Yq2 × List Yq2 × List (Bs × Bool × Bs)) (fun j1 =>
 bif (p0.2.2.1 != (0 : Int)) then (callO (ref14_number N 10 p0.2.2.1) fun r17 =>
 j1 (p0.1, p0.2.1, p0.2.2.1, p0.2.2.2.1, p0.2.2.2.2, p1, ([(([50, 46, 53, 46, 50, 57, 46, 50, 49] : Bs), false, r17)] : List (Bs × Bool × Bs))))
 else (j1 (p0.1, p0.2.1, p0.2.2.1, p0.2.2.2.1, p0.2.2.2.2, p1, ([] : List (Bs × Bool × Bs)))))
 (U7 fun b33280_0a b33280_1a b33280_2a b33280_3a b33280_4a b33536_0a l1000000a =>
 letJ (α := Int × Int × Int × Int × List Yq2 × List Yq2 × List (Bs × Bool × Bs)) (fun j2 =>
 bif (b33280_3a != ((-1) : Int)) then (callO (ref01_EncodeTime N b33280_3a) fun r27 =>
 chk (decide ((l1000000a.length + 1) * 41 ≤ 140737488355328)) <|
 let y41472 : List (Bs × Bool × Bs) := l1000000a ++ ([(([50, 46, 53, 46, 50, 57, 46, 50, 52] : Bs), false, r27.1)] : List (Bs × Bool × Bs))
 j2 (b33280_0a, b33280_1a, b33280_2a, b33280_3a, b33280_4a, b33536_0a, y41472))
 else (j2 (b33280_0a, b33280_1a, b33280_2a, b33280_3a, b33280_4a, b33536_0a, l1000000a)))
 (U7 fun b33280_0b b33280_1b b33280_2b b33280_3b b33280_4b b33536_0b l1004096b =>
 letJ (α := Int × Int × Int × Int × List Yq2 × List (Bs × Bool × Bs)) (fun j3 =>
 callO (ref07_MatchName N b33280_4b b33536_0b) fun r38 =>
 bif !r38 then (callO (ref14_directory N b33280_4b) fun r43 =>
 callO (ref07_Wrap N 48 ([r43] : List Bs)) fun r45 =>
 chk (decide ((l1004096b.length + 1) * 41 ≤ 140737488355328)) <|
 let y45056 : List (Bs × Bool × Bs) := l1004096b ++ ([(([50, 46, 53, 46, 50, 57, 46, 50, 57] : Bs), true, r45)] : List (Bs × Bool × Bs))
 j3 (b33280_0b, b33280_1b, b33280_2b, b33280_3b, b33280_4b, y45056))
 else (j3 (b33280_0b, b33280_1b, b33280_2b, b33280_3b, b33280_4b, l1004096b)))
 (U6 fun b33280_0c b33280_1c b33280_2c b33280_3c b33280_4c l1008192c =>
 letJ (α := Bs × Int × Int × Int × Int × List Yq2) (fun j4 =>
 bif decide ((l1008192c.length : Int) > (0 : Int)) then (callO (ref14_EncodeExtensions N l1008192c) fun r54 =>
 j4 (r54.1, b33280_0c, b33280_1c, b33280_2c, b33280_3c, b33280_4c))
 else (j4 (([] : Bs), b33280_0c, b33280_1c, b33280_2c, b33280_3c, b33280_4c)))
 (U6 fun t8d b33280_0d b33280_1d b33280_2d b33280_3d b33280_4d =>
 callO (ref01_EncodeTime N b33280_1d) fun r60 =>
 callO (ref14_number N 2 b33280_0d) fun r65 =>
 callO (ref07_Wrap N 48 ([r65, r60.1, t8d] : List Bs)) fun r69 =>
 some r69))))

-- certpath/certpathref14.fullNames
abbrev ref14_fullNames_O : Type := Bs
def ref14_fullNames (N : Nat) (p0 : List Yq3) : Option ref14_fullNames_O :=
 bif ((p0.length : Int) == (0 : Int)) then (some ([] : Bs))
 else (callO (ref07_EncodeList N p0) fun r10 =>
 callO (ref07_Wrap N 160 ([r10.1] : List Bs)) fun r15 =>
 callO (ref07_Wrap N 160 ([r15] : List Bs)) fun r17 =>
 some r17)

-- certpath/certpathref14.boolean
abbrev ref14_boolean_O : Type := Bs
def ref14_boolean (N : Nat) (p0 : Int) (p1 : Bool) : Option ref14_boolean_O :=
 bif !p1 then (some ([] : Bs))
 else (callO (ref01_PutBoolean N true) fun r8 =>
 callO (ref07_Wrap N p0 ([r8] : List Bs)) fun r10 =>
 some r10)

-- certpath/certpathref01.PutFlags
abbrev ref01_PutFlags_O : Type := Bs × Int
def ref01_PutFlags (N : Nat) (p0 : Int) : Option ref01_PutFlags_O :=
 chk (((!(decide (p0 < (0 : Int)))) || (!(!(decide (p0 < (0 : Int))))))) <|
 chk (bif decide (p0 < (0 : Int)) then true else !(decide (p0 < (0 : Int)))) <|
 chk (bif decide (p0 < (0 : Int)) then true else true) <|
 bif bif decide (p0 < (0 : Int)) then true else decide (p0 > (65535 : Int)) then (some (([] : Bs), 1))
 else (iterG (X := Int × Int) (Y := Int) (U2 fun t4a t5a k1 x2 =>
 bif decide (t5a < (16 : Int)) then (chk (decide ((0 : Int) ≤ t5a)) <|
 bif (((p0.fdiv (2 ^ (min t5a.toNat 64))).tmod 2) == (1 : Int)) then (k1 (IntKind.i64.wrap (t5a + (1 : Int)), IntKind.i64.wrap (t5a + (1 : Int))))
 else (k1 (t4a, IntKind.i64.wrap (t5a + (1 : Int)))))
 else (x2 t4a))
 N (0, 0) (fun t4b =>
 let x28 : Int := IntKind.i64.wrap ((1 : Int) + (IntKind.i64.wrap ((IntKind.i64.wrap (t4b + (7 : Int))).tdiv 8)))
 chk (decide (x28 ≤ x28)) <|
 chk (decide ((0 : Int) ≤ x28)) <|
 chk (decide (x28 * 2 ≤ 140737488355328)) <|
 let x34 : Int := IntKind.i64.wrap ((8 : Int) * (IntKind.i64.wrap ((IntKind.i64.wrap (t4b + (7 : Int))).tdiv 8)))
 chk (decide ((0 : Int) < ((List.replicate x28.toNat 0 : List Int).length : Int))) <|
 chk (decide (0 < (List.replicate x28.toNat 0 : List Int).length)) <|
 let y40192 : List Int := (List.replicate x28.toNat 0 : List Int).set 0 (IntKind.u8.wrap (IntKind.i64.wrap (x34 - t4b)))
 iterG (X := Int × List Int) (Y := (List Int)) (U2 fun t7c l40192c k3 x4 =>
 bif decide (t7c < t4b) then (chk (decide ((0 : Int) ≤ t7c)) <|
 bif (((p0.fdiv (2 ^ (min t7c.toNat 64))).tmod 2) == (1 : Int)) then (chk (decide ((0 : Int) ≤ IntKind.i64.wrap ((1 : Int) + (IntKind.i64.wrap (t7c.tdiv 8))))) <|
 chk (decide (IntKind.i64.wrap ((1 : Int) + (IntKind.i64.wrap (t7c.tdiv 8))) < (l40192c.length : Int))) <|
 chk (decide ((IntKind.i64.wrap ((1 : Int) + (IntKind.i64.wrap (t7c.tdiv 8)))).toNat < l40192c.length)) <|
 let x54 : Int := (l40192c.getD ((IntKind.i64.wrap ((1 : Int) + (IntKind.i64.wrap (t7c.tdiv 8)))).toNat) 0)
 chk (decide ((0 : Int) ≤ t7c.tmod 8)) <|
 chk (decide ((0 : Int) ≤ IntKind.i64.wrap ((1 : Int) + (IntKind.i64.wrap (t7c.tdiv 8))))) <|
 chk (decide (IntKind.i64.wrap ((1 : Int) + (IntKind.i64.wrap (t7c.tdiv 8))) < (l40192c.length : Int))) <|
 chk (decide ((IntKind.i64.wrap ((1 : Int) + (IntKind.i64.wrap (t7c.tdiv 8)))).toNat < l40192c.length)) <|
 let y40192 : List Int := l40192c.set ((IntKind.i64.wrap ((1 : Int) + (IntKind.i64.wrap (t7c.tdiv 8)))).toNat) (bitsI .or .u8 x54 ((128 : Int).fdiv (2 ^ (min (t7c.tmod 8).toNat 8))))
 k3 (IntKind.i64.wrap (t7c + (1 : Int)), y40192))
 else (k3 (IntKind.i64.wrap (t7c + (1 : Int)), l40192c)))
 else (x4 l40192c))
 N (0, y40192) (fun l40192d =>
 chk (List.all l40192d isByte) <|
 some (List.map byteOf l40192d, 0))))

-- certpath/certpathref14.flags
abbrev ref14_flags_O : Type := Bs
def ref14_flags (N : Nat) (p0 : Int) (p1 : Int) : Option ref14_flags_O :=
 bif (p1 == (0 : Int)) then (some ([] : Bs))
 else (callO (ref01_PutFlags N p1) fun r11 =>
 callO (ref07_Wrap N p0 ([r11.1] : List Bs)) fun r17 =>
 some r17)

-- certpath/certpathref14.EncodePoints
abbrev ref14_EncodePoints_O : Type := Bs × Int
def ref14_EncodePoints (N : Nat) (p0 : List Yq5) : Option ref14_EncodePoints_O :=
 bif ((p0.length : Int) == (0 : Int)) then (some (([] : Bs), 7))
 else (callO (ref14_CheckPoints N p0) fun r13 =>
 bif (r13 != (0 : Int)) then (some (([] : Bs), r13))
 else (iterG (X := Bs × Int) (Y := Bs) (U2 fun t5a t19a k1 x2 =>
 bif decide (t19a < (p0.length : Int)) then (chk (decide ((0 : Int) ≤ t19a)) <|
 chk (decide (t19a < (p0.length : Int))) <|
 letJ (α := Bs × List Yq3 × Int × Bool × List Yq2) (fun j3 =>
 let x24 : Bool := (p0.getD t19a.toNat (([] : List Yq3), 0, false, ([] : List Yq2))).2.2.1
 bif x24 then (callO (ref14_directory N ((p0.getD t19a.toNat (([] : List Yq3), 0, false, ([] : List Yq2))).2.2.2)) fun r27 =>
 callO (ref07_Wrap N 162 ([r27] : List Bs)) fun r29 =>
 j3 (r29, (p0.getD t19a.toNat (([] : List Yq3), 0, false, ([] : List Yq2))).1, (p0.getD t19a.toNat (([] : List Yq3), 0, false, ([] : List Yq2))).2.1, (p0.getD t19a.toNat (([] : List Yq3), 0, false, ([] : List Yq2))).2.2.1, (p0.getD t19a.toNat (([] : List Yq3), 0, false, ([] : List Yq2))).2.2.2))
 else (j3 (([] : Bs), (p0.getD t19a.toNat (([] : List Yq3), 0, false, ([] : List Yq2))).1, (p0.getD t19a.toNat (([] : List Yq3), 0, false, ([] : List Yq2))).2.1, (p0.getD t19a.toNat (([] : List Yq3), 0, false, ([] : List Yq2))).2.2.1, (p0.getD t19a.toNat (([] : List Yq3), 0, false, ([] : List Yq2))).2.2.2)))
 (U5 fun t8b b34560_0b b34560_1b b34560_2b b34560_3b =>
 callO (ref14_fullNames N b34560_0b) fun r33 =>
 callO (ref14_flags N 129 b34560_1b) fun r36 =>
 callO (ref07_Wrap N 48 ([r33, r36, t8b] : List Bs)) fun r39 =>
 chk (decide (t5a.length + r39.length ≤ 140737488355328)) <|
 k1 (t5a ++ r39, IntKind.i64.wrap (t19a + (1 : Int)))))
 else (x2 t5a))
 N (([] : Bs), 0) (fun t5c =>
 callO (ref07_Fit N 48 ([t5c] : List Bs)) fun r44 =>
 some (r44.1, r44.2))))

-- certpath/certpathref14.listExtensions
abbrev ref14_listExtensions_O : Type := Yq9 × Int
def ref14_listExtensions (N : Nat) (p0 : Yq7) : Option ref14_listExtensions_O :=
 letJ (α := Bs × Bs × List Yq2 × Int × Int × Int × Int × Bs × Bool × List Yq3 × Bool × Bool × Int × Bool × List Yq5 × List Yq6 × Bs × List (Bs × Bool × Bs)) (fun j1 =>
 bif !(p0.2.2.2.2.2.2.2.1 == ([] : Bs)) then (callO (ref07_Wrap N 128 ([p0.2.2.2.2.2.2.2.1] : List Bs)) fun r15 =>
 callO (ref07_Wrap N 48 ([r15] : List Bs)) fun r17 =>
 j1 (p0.1, p0.2.1, p0.2.2.1, p0.2.2.2.1, p0.2.2.2.2.1, p0.2.2.2.2.2.1, p0.2.2.2.2.2.2.1, p0.2.2.2.2.2.2.2.1, p0.2.2.2.2.2.2.2.2.1, p0.2.2.2.2.2.2.2.2.2.1, p0.2.2.2.2.2.2.2.2.2.2.1, p0.2.2.2.2.2.2.2.2.2.2.2.1, p0.2.2.2.2.2.2.2.2.2.2.2.2.1, p0.2.2.2.2.2.2.2.2.2.2.2.2.2.1, p0.2.2.2.2.2.2.2.2.2.2.2.2.2.2.1, p0.2.2.2.2.2.2.2.2.2.2.2.2.2.2.2.1, p0.2.2.2.2.2.2.2.2.2.2.2.2.2.2.2.2, ([(([50, 46, 53, 46, 50, 57, 46, 51, 53] : Bs), false, r17)] : List (Bs × Bool × Bs))))
 else (j1 (p0.1, p0.2.1, p0.2.2.1, p0.2.2.2.1, p0.2.2.2.2.1, p0.2.2.2.2.2.1, p0.2.2.2.2.2.2.1, p0.2.2.2.2.2.2.2.1, p0.2.2.2.2.2.2.2.2.1, p0.2.2.2.2.2.2.2.2.2.1, p0.2.2.2.2.2.2.2.2.2.2.1, p0.2.2.2.2.2.2.2.2.2.2.2.1, p0.2.2.2.2.2.2.2.2.2.2.2.2.1, p0.2.2.2.2.2.2.2.2.2.2.2.2.2.1, p0.2.2.2.2.2.2.2.2.2.2.2.2.2.2.1, p0.2.2.2.2.2.2.2.2.2.2.2.2.2.2.2.1, p0.2.2.2.2.2.2.2.2.2.2.2.2.2.2.2.2, ([] : List (Bs × Bool × Bs)))))
 (U18 fun b33024_0a b33024_1a b33024_2a b33024_3a b33024_4a b33024_5a b33024_6a b33024_7a b33024_8a b33024_9a b33024_10a b33024_11a b33024_12a b33024_13a b33024_14a b33024_15a b33024_16a l1000000a =>
 callO (ref14_number N 2 b33024_5a) fun r24 =>
 chk (decide ((l1000000a.length + 1) * 41 ≤ 140737488355328)) <|
 let y39680 : List (Bs × Bool × Bs) := l1000000a ++ ([(([50, 46, 53, 46, 50, 57, 46, 50, 48] : Bs), false, r24)] : List (Bs × Bool × Bs))
 letJ (α := Bs × Bs × List Yq2 × Int × Int × Int × Int × Bs × Bool × List Yq3 × Bool × Bool × Int × Bool × List Yq5 × List Yq6 × Bs × List (Bs × Bool × Bs)) (fun j2 =>
 bif (b33024_6a != ((-1) : Int)) then (callO (ref14_number N 2 b33024_6a) fun r34 =>
 chk (decide ((y39680.length + 1) * 41 ≤ 140737488355328)) <|
 let y42240 : List (Bs × Bool × Bs) := y39680 ++ ([(([50, 46, 53, 46, 50, 57, 46, 50, 55] : Bs), true, r34)] : List (Bs × Bool × Bs))
 j2 (b33024_0a, b33024_1a, b33024_2a, b33024_3a, b33024_4a, b33024_5a, b33024_6a, b33024_7a, b33024_8a, b33024_9a, b33024_10a, b33024_11a, b33024_12a, b33024_13a, b33024_14a, b33024_15a, b33024_16a, y42240))
 else (j2 (b33024_0a, b33024_1a, b33024_2a, b33024_3a, b33024_4a, b33024_5a, b33024_6a, b33024_7a, b33024_8a, b33024_9a, b33024_10a, b33024_11a, b33024_12a, b33024_13a, b33024_14a, b33024_15a, b33024_16a, y39680)))
 (U18 fun b33024_0b b33024_1b b33024_2b b33024_3b b33024_4b b33024_5b b33024_6b b33024_7b b33024_8b b33024_9b b33024_10b b33024_11b b33024_12b b33024_13b b33024_14b b33024_15b b33024_16b l1004096b =>
 letJ (α := Bs × Bs × List Yq2 × Int × Int × Int × Int × Bs × Bool × List Yq3 × Bool × Bool × Int × Bool × List Yq5 × List Yq6 × Bs × List (Bs × Bool × Bs)) (fun j3 =>
 bif b33024_8b then (callO (ref14_fullNames N b33024_9b) fun r43 =>
 callO (ref14_boolean N 129 b33024_10b) fun r47 =>
 callO (ref14_boolean N 130 b33024_11b) fun r51 =>
 callO (ref14_flags N 131 b33024_12b) fun r55 =>
 callO (ref14_boolean N 132 b33024_13b) fun r59 =>
 callO (ref07_Wrap N 48 ([r43, r47, r51, r55, r59] : List Bs)) fun r61 =>
 chk (decide ((l1004096b.length + 1) * 41 ≤ 140737488355328)) <|
 let y49664 : List (Bs × Bool × Bs) := l1004096b ++ ([(([50, 46, 53, 46, 50, 57, 46, 50, 56] : Bs), true, r61)] : List (Bs × Bool × Bs))
 j3 (b33024_0b, b33024_1b, b33024_2b, b33024_3b, b33024_4b, b33024_5b, b33024_6b, b33024_7b, b33024_8b, b33024_9b, b33024_10b, b33024_11b, b33024_12b, b33024_13b, b33024_14b, b33024_15b, b33024_16b, y49664))
 else (j3 (b33024_0b, b33024_1b, b33024_2b, b33024_3b, b33024_4b, b33024_5b, b33024_6b, b33024_7b, b33024_8b, b33024_9b, b33024_10b, b33024_11b, b33024_12b, b33024_13b, b33024_14b, b33024_15b, b33024_16b, l1004096b)))
 (U18 fun b33024_0c b33024_1c b33024_2c b33024_3c b33024_4c b33024_5c b33024_6c b33024_7c b33024_8c b33024_9c b33024_10c b33024_11c b33024_12c b33024_13c b33024_14c b33024_15c b33024_16c l1008192c =>
 bif decide ((b33024_14c.length : Int) > (0 : Int)) then (callO (ref14_EncodePoints N b33024_14c) fun r74 =>
 bif (r74.2 != (0 : Int)) then (some (([] : List (Bs × Bool × Bs)), r74.2))
 else (chk (decide ((l1008192c.length + 1) * 41 ≤ 140737488355328)) <|
 let y54272 : List (Bs × Bool × Bs) := l1008192c ++ ([(([50, 46, 53, 46, 50, 57, 46, 52, 54] : Bs), false, r74.1)] : List (Bs × Bool × Bs))
 some (y54272, 0)))
 else (some (l1008192c, 0)))))

-- certpath/certpathref14.wrapped
abbrev ref14_wrapped_O : Type := Bs × Int
def ref14_wrapped (N : Nat) (p0 : Int) (p1 : Yq9) : Option ref14_wrapped_O :=
 callO (ref14_EncodeExtensions N p1) fun r10 =>
 bif (r10.2 != (0 : Int)) then (some (([] : Bs), r10.2))
 else (callO (ref07_Fit N p0 ([r10.1] : List Bs)) fun r19 =>
 some (r19.1, r19.2))

-- certpath/certpathref14.Algorithm
abbrev ref14_Algorithm_O : Type := Bs
def ref14_Algorithm (N : Nat)  : Option ref14_Algorithm_O :=
 callO (ref07_OID N ([49, 46, 51, 46, 54, 46, 49, 46, 52, 46, 49, 46, 53, 56, 56, 56, 56, 46, 49, 46, 49] : Bs)) fun r1 =>
 callO (ref07_Wrap N 48 ([r1] : List Bs)) fun r3 =>
 some r3

-- certpath/certpathref14.EncodeListTBS
abbrev ref14_EncodeListTBS_O : Type := Bs × Int
def ref14_EncodeListTBS (N : Nat) (p0 : Yq7) : Option ref14_EncodeListTBS_O :=
 callO (ref14_CheckList N p0) fun r21 =>
 bif (r21 != (0 : Int)) then (some (([] : Bs), r21))
 else (callO (ref07_EncodeName N p0.2.2.1) fun r28 =>
 callO (ref01_EncodeTime N p0.2.2.2.1) fun r34 =>
 callO (ref01_EncodeTime N p0.2.2.2.2.1) fun r40 =>
 iterG (X := Bs × Int × Bs × Bs × List Yq2 × Int × Int × Int × Int × Bs × Bool × List Yq3 × Bool × Bool × Int × Bool × List Yq5 × List Yq6 × Bs × List Yq2) (Y := (Bs × Bs × Bs × List Yq2 × Int × Int × Int × Int × Bs × Bool × List Yq3 × Bool × Bool × Int × Bool × List Yq5 × List Yq6 × Bs)) (U20 fun t11a t48a b33024_0a b33024_1a b33024_2a b33024_3a b33024_4a b33024_5a b33024_6a b33024_7a b33024_8a b33024_9a b33024_10a b33024_11a b33024_12a b33024_13a b33024_14a b33024_15a b33024_16a b35840_0a k1 x2 =>
 bif decide (t48a < (p0.2.2.2.2.2.2.2.2.2.2.2.2.2.2.2.1.length : Int)) then (chk (decide ((0 : Int) ≤ t48a)) <|
 chk (decide (t48a < (p0.2.2.2.2.2.2.2.2.2.2.2.2.2.2.2.1.length : Int))) <|
 callO (ref14_entry N (p0.2.2.2.2.2.2.2.2.2.2.2.2.2.2.2.1.getD t48a.toNat (0, 0, 0, 0, ([] : List Yq2))) b35840_0a) fun r55 =>
 chk (decide (t11a.length + r55.length ≤ 140737488355328)) <|
 k1 (t11a ++ r55, IntKind.i64.wrap (t48a + (1 : Int)), b33024_0a, b33024_1a, b33024_2a, b33024_3a, b33024_4a, b33024_5a, b33024_6a, b33024_7a, b33024_8a, b33024_9a, b33024_10a, b33024_11a, b33024_12a, b33024_13a, b33024_14a, b33024_15a, b33024_16a, (p0.2.2.2.2.2.2.2.2.2.2.2.2.2.2.2.1.getD t48a.toNat (0, 0, 0, 0, ([] : List Yq2))).2.2.2.2))
 else (x2 (t11a, b33024_0a, b33024_1a, b33024_2a, b33024_3a, b33024_4a, b33024_5a, b33024_6a, b33024_7a, b33024_8a, b33024_9a, b33024_10a, b33024_11a, b33024_12a, b33024_13a, b33024_14a, b33024_15a, b33024_16a)))
 N (([] : Bs), 0, p0.1, p0.2.1, p0.2.2.1, p0.2.2.2.1, p0.2.2.2.2.1, p0.2.2.2.2.2.1, p0.2.2.2.2.2.2.1, p0.2.2.2.2.2.2.2.1, p0.2.2.2.2.2.2.2.2.1, p0.2.2.2.2.2.2.2.2.2.1, p0.2.2.2.2.2.2.2.2.2.2.1, p0.2.2.2.2.2.2.2.2.2.2.2.1, p0.2.2.2.2.2.2.2.2.2.2.2.2.1, p0.2.2.2.2.2.2.2.2.2.2.2.2.2.1, p0.2.2.2.2.2.2.2.2.2.2.2.2.2.2.1, p0.2.2.2.2.2.2.2.2.2.2.2.2.2.2.2.1, p0.2.2.2.2.2.2.2.2.2.2.2.2.2.2.2.2, p0.2.2.1) (U18 fun t11b b33024_0b b33024_1b b33024_2b b33024_3b b33024_4b b33024_5b b33024_6b b33024_7b b33024_8b b33024_9b b33024_10b b33024_11b b33024_12b b33024_13b b33024_14b b33024_15b b33024_16b =>
 letJ (α := Bs × Bs × Bs × List Yq2 × Int × Int × Int × Int × Bs × Bool × List Yq3 × Bool × Bool × Int × Bool × List Yq5 × List Yq6 × Bs) (fun j3 =>
 bif decide ((b33024_15b.length : Int) > (0 : Int)) then (callO (ref07_Fit N 48 ([t11b] : List Bs)) fun r67 =>
 bif (r67.2 != (0 : Int)) then (some (([] : Bs), r67.2))
 else (j3 (r67.1, b33024_0b, b33024_1b, b33024_2b, b33024_3b, b33024_4b, b33024_5b, b33024_6b, b33024_7b, b33024_8b, b33024_9b, b33024_10b, b33024_11b, b33024_12b, b33024_13b, b33024_14b, b33024_15b, b33024_16b)))
 else (j3 (t11b, b33024_0b, b33024_1b, b33024_2b, b33024_3b, b33024_4b, b33024_5b, b33024_6b, b33024_7b, b33024_8b, b33024_9b, b33024_10b, b33024_11b, b33024_12b, b33024_13b, b33024_14b, b33024_15b, b33024_16b)))
 (U18 fun t11c b33024_0c b33024_1c b33024_2c b33024_3c b33024_4c b33024_5c b33024_6c b33024_7c b33024_8c b33024_9c b33024_10c b33024_11c b33024_12c b33024_13c b33024_14c b33024_15c b33024_16c =>
 callO (ref14_listExtensions N (b33024_0c, b33024_1c, b33024_2c, b33024_3c, b33024_4c, b33024_5c, b33024_6c, b33024_7c, b33024_8c, b33024_9c, b33024_10c, b33024_11c, b33024_12c, b33024_13c, b33024_14c, b33024_15c, b33024_16c)) fun r76 =>
 bif (r76.2 != (0 : Int)) then (some (([] : Bs), 2))
 else (callO (ref14_wrapped N 160 r76.1) fun r83 =>
 bif (r83.2 != (0 : Int)) then (some (([] : Bs), 2))
 else (callO (ref14_number N 2 1) fun r88 =>
 callO (ref14_Algorithm N) fun r89 =>
 callO (ref07_Fit N 48 ([r88, r89, r28.1, r34.1, r40.1, t11c, r83.1] : List Bs)) fun r96 =>
 some (r96.1, r96.2))))))

-- certpath/certpathref14.whole
abbrev ref14_whole_O : Type := (Int × Bs × Bs) × Int
def ref14_whole (N : Nat) (p0 : Bs) (p1 : Int) : Option ref14_whole_O :=
 callO (ref01_One N p0) fun r10 =>
 bif (r10.2 != (0 : Int)) then (some ((0, ([] : Bs), ([] : Bs)), r10.2))
 else (bif (r10.1.1 != p1) then (some ((0, ([] : Bs), ([] : Bs)), 5))
 else (some (r10.1, 0)))

-- certpath/certpathref14.Seal
abbrev ref14_Seal_O : Type := Bs × Int
def ref14_Seal (N : Nat) (p0 : Bs) (p1 : Bs) : Option ref14_Seal_O :=
 callO (ref14_whole N p0 48) fun r12 =>
 bif (r12.2 != (0 : Int)) then (some (([] : Bs), r12.2))
 else (callO (ref07_Fit N 3 ([([0] : Bs), p1] : List Bs)) fun r21 =>
 bif (r21.2 != (0 : Int)) then (some (([] : Bs), r21.2))
 else (callO (ref14_Algorithm N) fun r28 =>
 callO (ref07_Fit N 48 ([p0, r28, r21.1] : List Bs)) fun r31 =>
 some (r31.1, r31.2)))

-- certpath/certpathmade.SealedList
abbrev made_SealedList_O : Type := Bs
def made_SealedList (N : Nat) (p0 : Yq7) : Option made_SealedList_O :=
 callO (ref14_EncodeListTBS N p0) fun r9 =>
 callO (ref14_Seal N r9.1 ([110, 111, 32, 115, 105, 103, 110, 97, 116, 117, 114, 101] : Bs)) fun r14 =>
 some r14.1

-- certpath/certpathmade.Authority
abbrev made_Authority_O : Type := List Yq2
def made_Authority (N : Nat) (p0 : Int) : Option made_Authority_O :=
 callO (ref01_Dec N N (IntKind.i64.wrap ((p0.tmod 8).tdiv 2))) fun r8 =>
 chk (decide (3 + r8.length ≤ 140737488355328)) <|
 letJ (α := Bs) (fun j1 =>
 bif decide ((p0.tmod 16) ≥ (8 : Int)) then (callO (ref01_Dec N N (IntKind.i64.wrap ((p0.tmod 8).tdiv 2))) fun r16 =>
 chk (decide (5 + r16.length ≤ 140737488355328)) <|
 j1 (([32, 99, 97, 32, 32] : Bs) ++ r16))
 else (j1 (([67, 65, 32] : Bs) ++ r8)))
 (fun t3a =>
 bif ((p0.tmod 2) == (1 : Int)) then (some ([([(([50, 46, 53, 46, 52, 46, 49, 48] : Bs), 19, t3a)] : List (Bs × Int × Bs)), ([(([50, 46, 53, 46, 52, 46, 49, 49] : Bs), 12, ([85, 110, 105, 116] : Bs))] : List (Bs × Int × Bs))] : List Yq2))
 else (some ([([(([50, 46, 53, 46, 52, 46, 49, 48] : Bs), 19, t3a)] : List (Bs × Int × Bs))] : List Yq2)))

-- certpath/certpathmade.Time
abbrev made_Time_O : Type := Int × List Int × Int
def made_Time (N : Nat) (p0 : List Int × Int) : Option made_Time_O :=
 callO (made_Deck_Next N p0 7) fun r5 =>
 chk (decide ((0 : Int) ≤ r5.1)) <|
 chk (decide (r5.1 < (7 : Int))) <|
 chk (decide (r5.1.toNat < 7)) <|
 let x7 : Int := (([0, 1000, 2000000000, 3155759999, 3155760000, 254033452799, 2400000000] : List Int).getD r5.1.toNat 0)
 some (x7, r5.2)

-- certpath/certpathmade.attribute
abbrev made_attribute_O : Type := (Bs × Int × Bs) × List Int × Int
def made_attribute (N : Nat) (p0 : List Int × Int) : Option made_attribute_O :=
 callO (made_Deck_Next N p0 12) fun r17 =>
 chk (decide ((0 : Int) ≤ r17.1)) <|
 chk (decide (r17.1 < (12 : Int))) <|
 chk (decide (r17.1.toNat < 12)) <|
 some ((([(([50, 46, 53, 46, 52, 46, 51] : Bs), 12, ([65, 110, 110] : Bs)), (([50, 46, 53, 46, 52, 46, 51] : Bs), 19, ([32, 97, 110, 110] : Bs)), (([50, 46, 53, 46, 52, 46, 51] : Bs), 12, ([103, 114, 195, 182, 195, 159, 101] : Bs)), (([50, 46, 53, 46, 52, 46, 54] : Bs), 19, ([85, 83] : Bs)), (([50, 46, 53, 46, 52, 46, 49, 48] : Bs), 19, ([69, 120, 97, 109, 112, 108, 101, 32, 32, 67, 111, 114, 112] : Bs)), (([50, 46, 53, 46, 52, 46, 49, 48] : Bs), 12, ([101, 120, 97, 109, 112, 108, 101, 32, 99, 111, 114, 112] : Bs)), (([50, 46, 53, 46, 52, 46, 49, 49] : Bs), 22, ([97, 44, 98, 43, 99, 61, 100, 92, 101] : Bs)), (([48, 46, 57, 46, 50, 51, 52, 50, 46, 49, 57, 50, 48, 48, 51, 48, 48, 46, 49, 48, 48, 46, 49, 46, 50, 53] : Bs), 22, ([111, 114, 103] : Bs)), (([49, 46, 50, 46, 56, 52, 48, 46, 49, 49, 51, 53, 52, 57, 46, 49, 46, 57, 46, 49] : Bs), 22, ([97, 110, 110, 64, 101, 120, 97, 109, 112, 108, 101, 46, 111, 114, 103] : Bs)), (([49, 46, 50, 46, 56, 52, 48, 46, 49, 49, 51, 53, 52, 57, 46, 49, 46, 57, 46, 49] : Bs), 22, ([110, 111, 32, 97, 100, 100, 114, 101, 115, 115] : Bs)), (([50, 46, 53, 46, 52, 46, 57, 57] : Bs), 19, ([120] : Bs)), (([50, 46, 53, 46, 52, 46, 55] : Bs), 12, ([76] : Bs))] : List (Bs × Int × Bs)).getD r17.1.toNat (([] : Bs), 0, ([] : Bs))), r17.2)

-- certpath/certpathmade.Name
abbrev made_Name_O : Type := List Yq2 × List Int × Int
def made_Name (N : Nat) (p0 : List Int × Int) : Option made_Name_O :=
 callO (made_Deck_Next N p0 4) fun r10 =>
 iterG (X := Int × List Int × Int × List Yq2) (Y := (List Int × Int × List Yq2)) (U4 fun t4a b0_0a b0_1a l1000000a k1 x2 =>
 bif decide (t4a > (0 : Int)) then (callO (made_Deck_Next N (b0_0a, b0_1a) 5) fun r16 =>
 iterG (X := Int × List Int × Int × (List (Bs × Int × Bs)) × List Yq2) (Y := (List Int × Int × (List (Bs × Int × Bs)) × List Yq2)) (U5 fun t6b b0_0b b0_1b l1004096b l1004112b k3 x4 =>
 bif decide (t6b > (0 : Int)) then (callO (made_attribute N (b0_0b, b0_1b)) fun r24 =>
 chk (((!((l1004096b.length : Int) == (0 : Int))) || (!(!((l1004096b.length : Int) == (0 : Int)))))) <|
 chk (((decide ((0 : Int) < (l1004096b.length : Int))) || (!(!((l1004096b.length : Int) == (0 : Int)))))) <|
 chk (((!((l1004096b.length : Int) == (0 : Int))) || (!(!((l1004096b.length : Int) == (0 : Int)))))) <|
 chk (((decide (0 < l1004096b.length)) || (!(!((l1004096b.length : Int) == (0 : Int)))))) <|
 chk (((!((l1004096b.length : Int) == (0 : Int))) || (!(!((l1004096b.length : Int) == (0 : Int)))))) <|
 chk (((decide (0 < l1004096b.length)) || (!(!((l1004096b.length : Int) == (0 : Int)))))) <|
 chk (((!((l1004096b.length : Int) == (0 : Int))) || (!(!((l1004096b.length : Int) == (0 : Int)))))) <|
 chk (((!((l1004096b.length : Int) == (0 : Int))) || (!(!((l1004096b.length : Int) == (0 : Int)))))) <|
 chk (((!((l1004096b.length : Int) == (0 : Int))) || (!(!((l1004096b.length : Int) == (0 : Int)))))) <|
 chk (bif ((l1004096b.length : Int) == (0 : Int)) then true else !((l1004096b.length : Int) == (0 : Int))) <|
 chk (bif ((l1004096b.length : Int) == (0 : Int)) then true else true) <|
 let x36 : Bool := bif ((l1004096b.length : Int) == (0 : Int)) then true else !(((l1004096b.getD 0 (([] : Bs), 0, ([] : Bs))).1) == r24.1.1)
 bif x36 then (chk (decide ((l1004096b.length + 1) * 41 ≤ 140737488355328)) <|
 k3 (IntKind.i64.wrap (t6b - (1 : Int)), r24.2.1, r24.2.2, l1004096b ++ ([r24.1] : List (Bs × Int × Bs)), l1004112b))
 else (k3 (IntKind.i64.wrap (t6b - (1 : Int)), r24.2.1, r24.2.2, l1004096b, l1004112b)))
 else (x4 (b0_0b, b0_1b, l1004096b, l1004112b)))
 N (IntKind.i64.wrap ((1 : Int) + (IntKind.i64.wrap (r16.1.tdiv 4))), r16.2.1, r16.2.2, ([] : List (Bs × Int × Bs)), l1000000a) (U4 fun b0_0c b0_1c l1008192c l1008208c =>
 chk (decide ((l1008208c.length + 1) * 25 ≤ 140737488355328)) <|
 k1 (IntKind.i64.wrap (t4a - (1 : Int)), b0_0c, b0_1c, l1008208c ++ ([l1008192c] : List Yq2))))
 else (x2 (b0_0a, b0_1a, l1000000a)))
 N (r10.1, r10.2.1, r10.2.2, ([] : List Yq2)) (U3 fun b0_0d b0_1d l1012288d =>
 some (l1012288d, (b0_0d, b0_1d)))

-- certpath/certpathmade.General
abbrev made_General_O : Type := Yq3 × List Int × Int
def made_General (N : Nat) (p0 : List Int × Int) : Option made_General_O :=
 callO (made_Deck_Next N p0 4) fun r4 =>
 bif (r4.1 == (0 : Int)) then (callO (made_Deck_Next N r4.2 6) fun r9 =>
 chk (decide ((0 : Int) ≤ r9.1)) <|
 chk (decide (r9.1 < (6 : Int))) <|
 chk (decide (r9.1.toNat < 6)) <|
 let x11 : Bs := (([([97, 110, 110, 64, 101, 120, 97, 109, 112, 108, 101, 46, 111, 114, 103] : Bs), ([65, 78, 78, 64, 101, 120, 97, 109, 112, 108, 101, 46, 111, 114, 103] : Bs), ([97, 110, 110, 64, 69, 120, 97, 109, 112, 108, 101, 46, 79, 82, 71] : Bs), ([98, 46, 99, 64, 109, 97, 105, 108, 46, 101, 120, 97, 109, 112, 108, 101, 46, 111, 114, 103] : Bs), ([120, 64, 111, 114, 103] : Bs), ([97, 39, 98, 64, 97, 46, 98] : Bs)] : List Bs).getD r9.1.toNat ([] : Bs))
 some ((1, x11, ([] : List Yq2)), r9.2))
 else (bif (r4.1 == (1 : Int)) then (callO (made_Deck_Next N r4.2 7) fun r17 =>
 chk (decide ((0 : Int) ≤ r17.1)) <|
 chk (decide (r17.1 < (7 : Int))) <|
 chk (decide (r17.1.toNat < 7)) <|
 let x19 : Bs := (([([101, 120, 97, 109, 112, 108, 101, 46, 111, 114, 103] : Bs), ([119, 119, 119, 46, 101, 120, 97, 109, 112, 108, 101, 46, 111, 114, 103] : Bs), ([87, 87, 87, 46, 69, 120, 97, 109, 112, 108, 101, 46, 111, 114, 103] : Bs), ([42, 46, 101, 120, 97, 109, 112, 108, 101, 46, 111, 114, 103] : Bs), ([97, 46, 98] : Bs), ([111, 114, 103] : Bs), ([109, 121, 101, 120, 97, 109, 112, 108, 101, 46, 111, 114, 103] : Bs)] : List Bs).getD r17.1.toNat ([] : Bs))
 some ((2, x19, ([] : List Yq2)), r17.2))
 else (bif (r4.1 == (2 : Int)) then (callO (made_Deck_Next N r4.2 4) fun r25 =>
 chk (decide ((0 : Int) ≤ r25.1)) <|
 chk (decide (r25.1 < (4 : Int))) <|
 chk (decide (r25.1.toNat < 4)) <|
 let x27 : Bs := (([([10, 0, 0, 1] : Bs), ([10, 1, 2, 3] : Bs), ([192, 168, 1, 7] : Bs), ([32, 1, 13, 184, 0, 0, 0, 0, 0, 0, 0, 0, 0, 0, 0, 1] : Bs)] : List Bs).getD r25.1.toNat ([] : Bs))
 some ((7, x27, ([] : List Yq2)), r25.2))
 else (callO (made_Name N r4.2) fun r30 =>
 some ((4, ([] : Bs), r30.1), r30.2))))

-- certpath/certpathmade.points
abbrev made_points_O : Type := List Yq5 × List Int × Int
def made_points (N : Nat) (p0 : List Int × Int) : Option made_points_O :=
 callO (made_Deck_Next N p0 3) fun r7 =>
 iterG (X := Int × List Int × Int × List Yq5) (Y := (List Int × Int × List Yq5)) (U4 fun t4a b0_0a b0_1a l1000000a k1 x2 =>
 bif decide (t4a > (0 : Int)) then (callO (made_General N (b0_0a, b0_1a)) fun r14 =>
 callO (made_Deck_Next N r14.2 6) fun r18 =>
 chk (decide ((0 : Int) ≤ r18.1)) <|
 chk (decide (r18.1 < (6 : Int))) <|
 chk (decide (r18.1.toNat < 6)) <|
 letJ (α := List Int × Int × Int × Bool × List Yq2 × List Yq3 × List Yq5) (fun j3 =>
 callO (made_Deck_Next N r18.2 3) fun r23 =>
 bif (r23.1 == (2 : Int)) then (callO (made_Deck_Next N r23.2 16) fun r26 =>
 callO (made_Authority N r26.1) fun r27 =>
 j3 (r26.2.1, r26.2.2, (([0, 0, 510, 2, 64, 384] : List Int).getD r18.1.toNat 0), true, r27, ([r14.1] : List Yq3), l1000000a))
 else (j3 (r23.2.1, r23.2.2, (([0, 0, 510, 2, 64, 384] : List Int).getD r18.1.toNat 0), false, ([] : List Yq2), ([r14.1] : List Yq3), l1000000a)))
 (U7 fun b0_0b b0_1b b34048_1b b34048_2b b34048_3b l36608b l1004096b =>
 chk (decide ((l1004096b.length + 1) * 65 ≤ 140737488355328)) <|
 k1 (IntKind.i64.wrap (t4a - (1 : Int)), b0_0b, b0_1b, l1004096b ++ ([(l36608b, b34048_1b, b34048_2b, b34048_3b)] : List Yq5))))
 else (x2 (b0_0a, b0_1a, l1000000a)))
 N (IntKind.i64.wrap ((1 : Int) + r7.1), r7.2.1, r7.2.2, ([] : List Yq5)) (U3 fun b0_0c b0_1c l1008192c =>
 some (l1008192c, (b0_0c, b0_1c)))

-- certpath/certpathref14.FindEntry
abbrev ref14_FindEntry_O : Type := Yq6 × Bool
def ref14_FindEntry (N : Nat) (p0 : Yq7) (p1 : List Yq2) (p2 : Int) : Option ref14_FindEntry_O :=
 iterG (X := Int × List Yq2) (Y := Unit) (U2 fun t13a b33792_0a k1 x2 =>
 bif decide (t13a < (p0.2.2.2.2.2.2.2.2.2.2.2.2.2.2.2.1.length : Int)) then (chk (decide ((0 : Int) ≤ t13a)) <|
 chk (decide (t13a < (p0.2.2.2.2.2.2.2.2.2.2.2.2.2.2.2.1.length : Int))) <|
 let x18 : Int := (p0.2.2.2.2.2.2.2.2.2.2.2.2.2.2.2.1.getD t13a.toNat (0, 0, 0, 0, ([] : List Yq2))).1
 chk (((x18 == p2) || (!(x18 == p2)))) <|
 chk (((x18 == p2) || (!(x18 == p2)))) <|
 chk (((x18 == p2) || (!(x18 == p2)))) <|
 chk ((((ref07_MatchName N ((p0.2.2.2.2.2.2.2.2.2.2.2.2.2.2.2.1.getD t13a.toNat (0, 0, 0, 0, ([] : List Yq2))).2.2.2.2) b33792_0a).isSome) || (!(x18 == p2)))) <|
 let r25 := (ref07_MatchName N ((p0.2.2.2.2.2.2.2.2.2.2.2.2.2.2.2.1.getD t13a.toNat (0, 0, 0, 0, ([] : List Yq2))).2.2.2.2) b33792_0a).getD default
 chk (bif (x18 == p2) then (x18 == p2) else true) <|
 chk (bif (x18 == p2) then true else true) <|
 bif bif (x18 == p2) then r25 else false then (some ((p0.2.2.2.2.2.2.2.2.2.2.2.2.2.2.2.1.getD t13a.toNat (0, 0, 0, 0, ([] : List Yq2))), true))
 else (k1 (IntKind.i64.wrap (t13a + (1 : Int)), b33792_0a)))
 else (x2 ()))
 N (0, p1) (fun _ =>
 some ((0, 0, 0, 0, ([] : List Yq2)), false))

-- certpath/certpathmade.List
abbrev made_List_O : Type := Yq7 × List Int × Int
def made_List (N : Nat) (p0 : List Int × Int) : Option made_List_O :=
 callO (made_Deck_Next N p0 16) fun r9 =>
 callO (made_Authority N r9.1) fun r10 =>
 callO (made_Time N r9.2) fun r12 =>
 callO (made_Time N r12.2) fun r14 =>
 callO (made_Deck_Next N r14.2 200) fun r16 =>
 letJ (α := List Int × Int × List Yq2 × Int × Int × Int) (fun j1 =>
 bif decide (r12.1 > r14.1) then (j1 (r16.2.1, r16.2.2, r10, r14.1, r12.1, IntKind.i64.wrap ((1 : Int) + r16.1)))
 else (j1 (r16.2.1, r16.2.2, r10, r12.1, r14.1, IntKind.i64.wrap ((1 : Int) + r16.1))))
 (U6 fun b0_0a b0_1a b33536_2a b33536_3a b33536_4a b33536_5a =>
 letJ (α := List Int × Int × List Yq2 × Int × Int × Int × Int) (fun j2 =>
 callO (made_Deck_Next N (b0_0a, b0_1a) 3) fun r31 =>
 bif (r31.1 == (1 : Int)) then (callO (made_Deck_Next N r31.2 b33536_5a) fun r36 =>
 j2 (r36.2.1, r36.2.2, b33536_2a, b33536_3a, b33536_4a, b33536_5a, r36.1))
 else (j2 (r31.2.1, r31.2.2, b33536_2a, b33536_3a, b33536_4a, b33536_5a, (-1))))
 (U7 fun b0_0b b0_1b b33536_2b b33536_3b b33536_4b b33536_5b b33536_6b =>
 letJ (α := List Int × Int × List Yq2 × Int × Int × Int × Int × Bs) (fun j3 =>
 callO (made_Deck_Next N (b0_0b, b0_1b) 3) fun r39 =>
 bif (r39.1 == (1 : Int)) then (j3 (r39.2.1, r39.2.2, b33536_2b, b33536_3b, b33536_4b, b33536_5b, b33536_6b, ([102, 101, 100, 99, 98, 97, 57, 56, 55, 54, 53, 52, 51, 50, 49, 48] : Bs)))
 else (j3 (r39.2.1, r39.2.2, b33536_2b, b33536_3b, b33536_4b, b33536_5b, b33536_6b, ([] : Bs))))
 (U8 fun b0_0c b0_1c b33536_2c b33536_3c b33536_4c b33536_5c b33536_6c b33536_7c =>
 letJ (α := List Int × Int × List Yq2 × Int × Int × Int × Int × Bs × Bool × List Yq3 × Bool × Bool × Int × Bool) (fun j4 =>
 callO (made_Deck_Next N (b0_0c, b0_1c) 2) fun r43 =>
 bif (r43.1 == (1 : Int)) then (callO (made_Deck_Next N r43.2 4) fun r48 =>
 chk (decide ((0 : Int) ≤ r48.1)) <|
 chk (decide (r48.1 < (4 : Int))) <|
 chk (decide (r48.1.toNat < 4)) <|
 callO (made_Deck_Next N r48.2 2) fun r52 =>
 callO (made_Deck_Next N r52.2 4) fun r57 =>
 bif (r57.1 == (0 : Int)) then (j4 (r57.2.1, r57.2.2, b33536_2c, b33536_3c, b33536_4c, b33536_5c, b33536_6c, b33536_7c, true, ([] : List Yq3), true, false, (([0, 2, 64, 510] : List Int).getD r48.1.toNat 0), (r52.1 == (1 : Int))))
 else (bif (r57.1 == (1 : Int)) then (j4 (r57.2.1, r57.2.2, b33536_2c, b33536_3c, b33536_4c, b33536_5c, b33536_6c, b33536_7c, true, ([] : List Yq3), false, true, (([0, 2, 64, 510] : List Int).getD r48.1.toNat 0), (r52.1 == (1 : Int))))
 else (callO (made_General N r57.2) fun r59 =>
 callO (made_General N r59.2) fun r61 =>
 callO (made_Deck_Next N r61.2 2) fun r64 =>
 chk (decide ((0 : Int) ≤ IntKind.i64.wrap ((1 : Int) + r64.1))) <|
 chk (decide (IntKind.i64.wrap ((1 : Int) + r64.1) ≤ (2 : Int))) <|
 j4 (r64.2.1, r64.2.2, b33536_2c, b33536_3c, b33536_4c, b33536_5c, b33536_6c, b33536_7c, true, cutL ([r59.1, r61.1] : List Yq3) 0 ((IntKind.i64.wrap ((1 : Int) + r64.1)).toNat), false, false, (([0, 2, 64, 510] : List Int).getD r48.1.toNat 0), (r52.1 == (1 : Int))))))
 else (j4 (r43.2.1, r43.2.2, b33536_2c, b33536_3c, b33536_4c, b33536_5c, b33536_6c, b33536_7c, false, ([] : List Yq3), false, false, 0, false)))
 (U14 fun b0_0d b0_1d b33536_2d b33536_3d b33536_4d b33536_5d b33536_6d b33536_7d b33536_8d b33536_9d b33536_10d b33536_11d b33536_12d b33536_13d =>
 letJ (α := List Int × Int × List Yq2 × Int × Int × Int × Int × Bs × Bool × List Yq3 × Bool × Bool × Int × Bool × List Yq5) (fun j5 =>
 chk (((b33536_6d == ((-1) : Int)) || (!(b33536_6d == ((-1) : Int))))) <|
 chk ((((made_Deck_Next N (b0_0d, b0_1d) 4).isSome) || (!(b33536_6d == ((-1) : Int))))) <|
 let r82 := (made_Deck_Next N (b0_0d, b0_1d) 4).getD default
 chk (((b33536_6d == ((-1) : Int)) || (!(b33536_6d == ((-1) : Int))))) <|
 chk (bif (b33536_6d == ((-1) : Int)) then (b33536_6d == ((-1) : Int)) else true) <|
 chk (bif (b33536_6d == ((-1) : Int)) then true else true) <|
 bif bif (b33536_6d == ((-1) : Int)) then (r82.1 == (1 : Int)) else false then (callO (made_points N ((bif (b33536_6d == ((-1) : Int)) then r82.2.1 else b0_0d), (bif (b33536_6d == ((-1) : Int)) then r82.2.2 else b0_1d))) fun r86 =>
 j5 (r86.2.1, r86.2.2, b33536_2d, b33536_3d, b33536_4d, b33536_5d, b33536_6d, b33536_7d, b33536_8d, b33536_9d, b33536_10d, b33536_11d, b33536_12d, b33536_13d, r86.1))
 else (j5 ((bif (b33536_6d == ((-1) : Int)) then r82.2.1 else b0_0d), (bif (b33536_6d == ((-1) : Int)) then r82.2.2 else b0_1d), b33536_2d, b33536_3d, b33536_4d, b33536_5d, b33536_6d, b33536_7d, b33536_8d, b33536_9d, b33536_10d, b33536_11d, b33536_12d, b33536_13d, ([] : List Yq5))))
 (U15 fun b0_0e b0_1e b33536_2e b33536_3e b33536_4e b33536_5e b33536_6e b33536_7e b33536_8e b33536_9e b33536_10e b33536_11e b33536_12e b33536_13e b33536_14e =>
 callO (made_Deck_Next N (b0_0e, b0_1e) 6) fun r89 =>
 iterG (X := Int × List Int × Int × List Yq2 × Int × Int × Int × Int × Bs × Bool × List Yq3 × Bool × Bool × Int × Bool × List Yq5 × List Yq6) (Y := (List Int × Int × List Yq2 × Int × Int × Int × Int × Bs × Bool × List Yq3 × Bool × Bool × Int × Bool × List Yq5 × List Yq6)) (U17 fun t4f b0_0f b0_1f b33536_2f b33536_3f b33536_4f b33536_5f b33536_6f b33536_7f b33536_8f b33536_9f b33536_10f b33536_11f b33536_12f b33536_13f b33536_14f l1020480f k6 x7 =>
 bif decide (t4f > (0 : Int)) then (callO (made_Deck_Next N (b0_0f, b0_1f) 9) fun r95 =>
 callO (made_Time N r95.2) fun r98 =>
 callO (made_Deck_Next N r98.2 9) fun r101 =>
 chk (decide ((0 : Int) ≤ r101.1)) <|
 chk (decide (r101.1 < (9 : Int))) <|
 chk (decide (r101.1.toNat < 9)) <|
 letJ (α := List Int × Int × List Yq2 × Int × Int × Int × Int × Bs × Bool × List Yq3 × Bool × Bool × Int × Bool × List Yq5 × Int × Int × Int × Int × List Yq2 × List Yq6) (fun j8 =>
 callO (made_Deck_Next N r101.2 3) fun r108 =>
 bif (r108.1 == (1 : Int)) then (callO (made_Time N r108.2) fun r111 =>
 j8 (r111.2.1, r111.2.2, b33536_2f, b33536_3f, b33536_4f, b33536_5f, b33536_6f, b33536_7f, b33536_8f, b33536_9f, b33536_10f, b33536_11f, b33536_12f, b33536_13f, b33536_14f, IntKind.i64.wrap ((1 : Int) + r95.1), r98.1, (([0, 1, 2, 3, 4, 5, 6, 9, 10] : List Int).getD r101.1.toNat 0), r111.1, b33536_2f, l1020480f))
 else (j8 (r108.2.1, r108.2.2, b33536_2f, b33536_3f, b33536_4f, b33536_5f, b33536_6f, b33536_7f, b33536_8f, b33536_9f, b33536_10f, b33536_11f, b33536_12f, b33536_13f, b33536_14f, IntKind.i64.wrap ((1 : Int) + r95.1), r98.1, (([0, 1, 2, 3, 4, 5, 6, 9, 10] : List Int).getD r101.1.toNat 0), (-1), b33536_2f, l1020480f)))
 (U21 fun b0_0g b0_1g b33536_2g b33536_3g b33536_4g b33536_5g b33536_6g b33536_7g b33536_8g b33536_9g b33536_10g b33536_11g b33536_12g b33536_13g b33536_14g b34048_0g b34048_1g b34048_2g b34048_3g b34048_4g l1024576g =>
 letJ (α := List Int × Int × List Yq2 × Int × Int × Int × Int × Bs × Bool × List Yq3 × Bool × Bool × Int × Bool × List Yq5 × Int × Int × Int × Int × List Yq2 × List Yq6) (fun j9 =>
 chk (((b33536_6g != ((-1) : Int)) || (!(b33536_6g != ((-1) : Int))))) <|
 chk ((((made_Deck_Next N (b0_0g, b0_1g) 3).isSome) || (!(b33536_6g != ((-1) : Int))))) <|
 let r118 := (made_Deck_Next N (b0_0g, b0_1g) 3).getD default
 chk (((b33536_6g != ((-1) : Int)) || (!(b33536_6g != ((-1) : Int))))) <|
 chk (bif (b33536_6g != ((-1) : Int)) then (b33536_6g != ((-1) : Int)) else true) <|
 chk (bif (b33536_6g != ((-1) : Int)) then true else true) <|
 bif bif (b33536_6g != ((-1) : Int)) then (r118.1 == (1 : Int)) else false then (j9 ((bif (b33536_6g != ((-1) : Int)) then r118.2.1 else b0_0g), (bif (b33536_6g != ((-1) : Int)) then r118.2.2 else b0_1g), b33536_2g, b33536_3g, b33536_4g, b33536_5g, b33536_6g, b33536_7g, b33536_8g, b33536_9g, b33536_10g, b33536_11g, b33536_12g, b33536_13g, b33536_14g, b34048_0g, b34048_1g, 8, b34048_3g, b34048_4g, l1024576g))
 else (j9 ((bif (b33536_6g != ((-1) : Int)) then r118.2.1 else b0_0g), (bif (b33536_6g != ((-1) : Int)) then r118.2.2 else b0_1g), b33536_2g, b33536_3g, b33536_4g, b33536_5g, b33536_6g, b33536_7g, b33536_8g, b33536_9g, b33536_10g, b33536_11g, b33536_12g, b33536_13g, b33536_14g, b34048_0g, b34048_1g, b34048_2g, b34048_3g, b34048_4g, l1024576g)))
 (U21 fun b0_0h b0_1h b33536_2h b33536_3h b33536_4h b33536_5h b33536_6h b33536_7h b33536_8h b33536_9h b33536_10h b33536_11h b33536_12h b33536_13h b33536_14h b34048_0h b34048_1h b34048_2h b34048_3h b34048_4h l1028672h =>
 letJ (α := List Int × Int × List Yq2 × Int × Int × Int × Int × Bs × Bool × List Yq3 × Bool × Bool × Int × Bool × List Yq5 × Int × Int × Int × Int × List Yq2 × List Yq6) (fun j10 =>
 bif b33536_13h then (callO (made_Deck_Next N (b0_0h, b0_1h) 16) fun r126 =>
 callO (made_Authority N r126.1) fun r127 =>
 j10 (r126.2.1, r126.2.2, b33536_2h, b33536_3h, b33536_4h, b33536_5h, b33536_6h, b33536_7h, b33536_8h, b33536_9h, b33536_10h, b33536_11h, b33536_12h, b33536_13h, b33536_14h, b34048_0h, b34048_1h, b34048_2h, b34048_3h, r127, l1028672h))
 else (j10 (b0_0h, b0_1h, b33536_2h, b33536_3h, b33536_4h, b33536_5h, b33536_6h, b33536_7h, b33536_8h, b33536_9h, b33536_10h, b33536_11h, b33536_12h, b33536_13h, b33536_14h, b34048_0h, b34048_1h, b34048_2h, b34048_3h, b34048_4h, l1028672h)))
 (U21 fun b0_0i b0_1i b33536_2i b33536_3i b33536_4i b33536_5i b33536_6i b33536_7i b33536_8i b33536_9i b33536_10i b33536_11i b33536_12i b33536_13i b33536_14i b34048_0i b34048_1i b34048_2i b34048_3i b34048_4i l1032768i =>
 callO (ref14_FindEntry N (([] : Bs), ([] : Bs), b33536_2i, b33536_3i, b33536_4i, b33536_5i, b33536_6i, b33536_7i, b33536_8i, b33536_9i, b33536_10i, b33536_11i, b33536_12i, b33536_13i, b33536_14i, l1032768i, ([] : Bs)) b34048_4i b34048_0i) fun r135 =>
 bif !r135.2 then (chk (decide ((l1032768i.length + 1) * 57 ≤ 140737488355328)) <|
 let y69632 : List Yq6 := l1032768i ++ ([(b34048_0i, b34048_1i, b34048_2i, b34048_3i, b34048_4i)] : List Yq6)
 k6 (IntKind.i64.wrap (t4f - (1 : Int)), b0_0i, b0_1i, b33536_2i, b33536_3i, b33536_4i, b33536_5i, b33536_6i, b33536_7i, b33536_8i, b33536_9i, b33536_10i, b33536_11i, b33536_12i, b33536_13i, b33536_14i, y69632))
 else (k6 (IntKind.i64.wrap (t4f - (1 : Int)), b0_0i, b0_1i, b33536_2i, b33536_3i, b33536_4i, b33536_5i, b33536_6i, b33536_7i, b33536_8i, b33536_9i, b33536_10i, b33536_11i, b33536_12i, b33536_13i, b33536_14i, l1032768i))))))
 else (x7 (b0_0f, b0_1f, b33536_2f, b33536_3f, b33536_4f, b33536_5f, b33536_6f, b33536_7f, b33536_8f, b33536_9f, b33536_10f, b33536_11f, b33536_12f, b33536_13f, b33536_14f, l1020480f)))
 N (r89.1, r89.2.1, r89.2.2, b33536_2e, b33536_3e, b33536_4e, b33536_5e, b33536_6e, b33536_7e, b33536_8e, b33536_9e, b33536_10e, b33536_11e, b33536_12e, b33536_13e, b33536_14e, ([] : List Yq6)) (U16 fun b0_0j b0_1j b33536_2j b33536_3j b33536_4j b33536_5j b33536_6j b33536_7j b33536_8j b33536_9j b33536_10j b33536_11j b33536_12j b33536_13j b33536_14j l1036864j =>
 some ((([] : Bs), ([] : Bs), b33536_2j, b33536_3j, b33536_4j, b33536_5j, b33536_6j, b33536_7j, b33536_8j, b33536_9j, b33536_10j, b33536_11j, b33536_12j, b33536_13j, b33536_14j, l1036864j, ([] : Bs)), (b0_0j, b0_1j))))))))

-- certpath/certpathref11.CheckKey
abbrev ref11_CheckKey_O : Type := Int
def ref11_CheckKey (N : Nat) (p0 : Int × Bs × Bs) : Option ref11_CheckKey_O :=
 chk (((!(decide (p0.1 < (0 : Int)))) || (!(!(decide (p0.1 < (0 : Int))))))) <|
 chk (((!(decide (p0.1 < (0 : Int)))) || (!(!(decide (p0.1 < (0 : Int))))))) <|
 chk (bif decide (p0.1 < (0 : Int)) then true else !(decide (p0.1 < (0 : Int)))) <|
 chk (bif decide (p0.1 < (0 : Int)) then true else true) <|
 chk (((!(bif decide (p0.1 < (0 : Int)) then true else decide (p0.1 > (8 : Int)))) || (!(!(bif decide (p0.1 < (0 : Int)) then true else decide (p0.1 > (8 : Int))))))) <|
 chk (((!(bif decide (p0.1 < (0 : Int)) then true else decide (p0.1 > (8 : Int)))) || (!(!(bif decide (p0.1 < (0 : Int)) then true else decide (p0.1 > (8 : Int))))))) <|
 chk (((!(bif decide (p0.1 < (0 : Int)) then true else decide (p0.1 > (8 : Int)))) || (!(!(bif decide (p0.1 < (0 : Int)) then true else decide (p0.1 > (8 : Int))))))) <|
 chk (bif bif decide (p0.1 < (0 : Int)) then true else decide (p0.1 > (8 : Int)) then true else !(bif decide (p0.1 < (0 : Int)) then true else decide (p0.1 > (8 : Int)))) <|
 chk (bif bif decide (p0.1 < (0 : Int)) then true else decide (p0.1 > (8 : Int)) then true else true) <|
 let x16 : Bool := bif bif decide (p0.1 < (0 : Int)) then true else decide (p0.1 > (8 : Int)) then true else ((p0.2.1.length : Int) != (16 : Int))
 chk (((!x16) || (!(!x16)))) <|
 chk (((!x16) || (!(!x16)))) <|
 chk (((!x16) || (!(!x16)))) <|
 chk (bif x16 then true else !x16) <|
 chk (bif x16 then true else true) <|
 bif bif x16 then true else ((p0.2.2.length : Int) != (16 : Int)) then (some 18)
 else (some 0)

-- certpath/certpathref14.skip
abbrev ref14_skip_O : Type := Bool
def ref14_skip (N : Nat) (p0 : Int) : Option ref14_skip_O :=
 chk (((decide (p0 ≥ ((-1) : Int))) || (!(decide (p0 ≥ ((-1) : Int)))))) <|
 chk (bif decide (p0 ≥ ((-1) : Int)) then decide (p0 ≥ ((-1) : Int)) else true) <|
 chk (bif decide (p0 ≥ ((-1) : Int)) then true else true) <|
 let x8 : Bool := bif decide (p0 ≥ ((-1) : Int)) then decide (p0 ≤ (64 : Int)) else false
 some x8

-- certpath/certpathref14.checkOIDs
abbrev ref14_checkOIDs_O : Type := Int
def ref14_checkOIDs (N : Nat) (p0 : List Bs) (p1 : Int) : Option ref14_checkOIDs_O :=
 bif decide ((p0.length : Int) > p1) then (some 2)
 else (iterG (X := Int) (Y := Unit) (fun t14a k1 x2 =>
 bif decide (t14a < (p0.length : Int)) then (chk (decide ((0 : Int) ≤ t14a)) <|
 chk (decide (t14a < (p0.length : Int))) <|
 callO (ref01_ValidOID N (p0.getD t14a.toNat ([] : Bs))) fun r20 =>
 bif !r20 then (some 11)
 else (iterG (X := Int) (Y := Unit) (fun t7b k3 x4 =>
 bif decide (t7b < t14a) then (chk (decide ((0 : Int) ≤ t7b)) <|
 chk (decide (t7b < (p0.length : Int))) <|
 bif ((p0.getD t7b.toNat ([] : Bs)) == (p0.getD t14a.toNat ([] : Bs))) then (some 10)
 else (k3 (IntKind.i64.wrap (t7b + (1 : Int)))))
 else (x4 ()))
 N 0 (fun _ =>
 k1 (IntKind.i64.wrap (t14a + (1 : Int))))))
 else (x2 ()))
 N 0 (fun _ =>
 some 0))

-- certpath/certpathref14.checkMappings
abbrev ref14_checkMappings_O : Type := Int
def ref14_checkMappings (N : Nat) (p0 : List (Bs × Bs)) : Option ref14_checkMappings_O :=
 bif decide ((p0.length : Int) > (8 : Int)) then (some 2)
 else (iterG (X := Int) (Y := Unit) (fun t11a k1 x2 =>
 bif decide (t11a < (p0.length : Int)) then (chk (decide ((0 : Int) ≤ t11a)) <|
 chk (decide (t11a < (p0.length : Int))) <|
 callO (ref01_ValidOID N ((p0.getD t11a.toNat (([] : Bs), ([] : Bs))).1)) fun r18 =>
 chk (((!(!r18)) || (!(!(!r18))))) <|
 chk (((!(!r18)) || (!(!(!r18))))) <|
 chk ((((ref01_ValidOID N ((p0.getD t11a.toNat (([] : Bs), ([] : Bs))).2)).isSome) || (!(!(!r18))))) <|
 let r23 := (ref01_ValidOID N ((p0.getD t11a.toNat (([] : Bs), ([] : Bs))).2)).getD default
 chk (((!(!r18)) || (!(!(!r18))))) <|
 chk (bif !r18 then true else !(!r18)) <|
 chk (bif !r18 then true else true) <|
 bif bif !r18 then true else !r23 then (some 11)
 else (iterG (X := Int × Bs × Bs) (Y := Unit) (U3 fun t5b b33792_0b b33792_1b k3 x4 =>
 bif decide (t5b < t11a) then (chk (decide ((0 : Int) ≤ t5b)) <|
 chk (decide (t5b < (p0.length : Int))) <|
 let x36 : Bool := ((((p0.getD t5b.toNat (([] : Bs), ([] : Bs))).1) == b33792_0b) && ((((p0.getD t5b.toNat (([] : Bs), ([] : Bs))).2) == b33792_1b) && true))
 bif x36 then (some 10)
 else (k3 (IntKind.i64.wrap (t5b + (1 : Int)), b33792_0b, b33792_1b)))
 else (x4 ()))
 N (0, (p0.getD t11a.toNat (([] : Bs), ([] : Bs))).1, (p0.getD t11a.toNat (([] : Bs), ([] : Bs))).2) (fun _ =>
 k1 (IntKind.i64.wrap (t11a + (1 : Int))))))
 else (x2 ()))
 N 0 (fun _ =>
 some 0))

-- certpath/certpathref07.CheckSubtrees
abbrev ref07_CheckSubtrees_O : Type := Int
def ref07_CheckSubtrees (N : Nat) (p0 : Yq10) : Option ref07_CheckSubtrees_O :=
 chk ((((p0.1.length : Int) == (0 : Int)) || (!((p0.1.length : Int) == (0 : Int))))) <|
 chk ((((p0.1.length : Int) == (0 : Int)) || (!((p0.1.length : Int) == (0 : Int))))) <|
 chk ((((p0.1.length : Int) == (0 : Int)) || (!((p0.1.length : Int) == (0 : Int))))) <|
 chk (bif ((p0.1.length : Int) == (0 : Int)) then ((p0.1.length : Int) == (0 : Int)) else true) <|
 chk (bif ((p0.1.length : Int) == (0 : Int)) then true else true) <|
 let x15 : Bool := bif ((p0.1.length : Int) == (0 : Int)) then ((p0.2.length : Int) == (0 : Int)) else false
 bif x15 then (some 7)
 else (chk (((!(decide ((p0.1.length : Int) > (16 : Int)))) || (!(!(decide ((p0.1.length : Int) > (16 : Int))))))) <|
 chk (((!(decide ((p0.1.length : Int) > (16 : Int)))) || (!(!(decide ((p0.1.length : Int) > (16 : Int))))))) <|
 chk (((!(decide ((p0.1.length : Int) > (16 : Int)))) || (!(!(decide ((p0.1.length : Int) > (16 : Int))))))) <|
 chk (bif decide ((p0.1.length : Int) > (16 : Int)) then true else !(decide ((p0.1.length : Int) > (16 : Int)))) <|
 chk (bif decide ((p0.1.length : Int) > (16 : Int)) then true else true) <|
 let x25 : Bool := bif decide ((p0.1.length : Int) > (16 : Int)) then true else decide ((p0.2.length : Int) > (16 : Int))
 bif x25 then (some 2)
 else (chk (decide (p0.1.length * 49 ≤ 140737488355328)) <|
 chk (decide ((p0.1.length + p0.2.length) * 49 ≤ 140737488355328)) <|
 iterG (X := Int × List Yq3) (Y := Unit) (U2 fun t33a l40704a k1 x2 =>
 bif decide (t33a < ((p0.1 ++ p0.2).length : Int)) then (chk (decide ((0 : Int) ≤ t33a)) <|
 chk (decide (t33a < (l40704a.length : Int))) <|
 chk (decide (t33a.toNat < l40704a.length)) <|
 callO (ref07_CheckGeneral N (l40704a.getD t33a.toNat (0, ([] : Bs), ([] : List Yq2))) true) fun r38 =>
 bif (r38 != (0 : Int)) then (some r38)
 else (k1 (IntKind.i64.wrap (t33a + (1 : Int)), l40704a)))
 else (x2 ()))
 N (0, p0.1 ++ p0.2) (fun _ =>
 some 0)))

-- certpath/certpathref14.Count
abbrev ref14_Count_O : Type := Int
def ref14_Count (N : Nat) (p0 : Yq11) : Option ref14_Count_O :=
 chk (((!(decide (p0.2.2.2.2.2.2.2.1 ≥ (0 : Int)))) || (!(!(decide (p0.2.2.2.2.2.2.2.1 ≥ (0 : Int))))))) <|
 chk (((!(decide (p0.2.2.2.2.2.2.2.1 ≥ (0 : Int)))) || (!(!(decide (p0.2.2.2.2.2.2.2.1 ≥ (0 : Int))))))) <|
 chk (bif decide (p0.2.2.2.2.2.2.2.1 ≥ (0 : Int)) then true else !(decide (p0.2.2.2.2.2.2.2.1 ≥ (0 : Int)))) <|
 chk (bif decide (p0.2.2.2.2.2.2.2.1 ≥ (0 : Int)) then true else true) <|
 let x33 : Bool := bif decide (p0.2.2.2.2.2.2.2.1 ≥ (0 : Int)) then true else decide (p0.2.2.2.2.2.2.2.2.1 ≥ (0 : Int))
 let x52 : Bool := decide ((p0.2.2.2.2.2.2.2.2.2.2.2.2.2.2.2.2.1.length : Int) > (0 : Int))
 let x56 : Bool := decide ((p0.2.2.2.2.2.2.2.2.2.2.2.2.2.2.2.2.2.1.length : Int) > (0 : Int))
 iterG (X := Int × Int × List Bool) (Y := Int) (U3 fun t3a t59a l47360a k1 x2 =>
 bif decide (t59a < (13 : Int)) then (chk (decide ((0 : Int) ≤ t59a)) <|
 chk (decide (t59a < (l47360a.length : Int))) <|
 chk (decide (t59a.toNat < l47360a.length)) <|
 bif (l47360a.getD t59a.toNat false) then (k1 (IntKind.i64.wrap (t3a + (1 : Int)), IntKind.i64.wrap (t59a + (1 : Int)), l47360a))
 else (k1 (t3a, IntKind.i64.wrap (t59a + (1 : Int)), l47360a)))
 else (x2 t3a))
 N ((p0.2.2.2.2.2.2.2.2.2.2.2.2.2.2.2.2.2.2.length : Int), 0, ([p0.1, (p0.2.2.2.1 != (0 : Int)), decide ((p0.2.2.2.2.1.length : Int) > (0 : Int)), decide ((p0.2.2.2.2.2.1.length : Int) > (0 : Int)), decide ((p0.2.2.2.2.2.2.1.length : Int) > (0 : Int)), x33, decide (p0.2.2.2.2.2.2.2.2.2.1 ≥ (0 : Int)), decide ((p0.2.2.2.2.2.2.2.2.2.2.1.length : Int) > (0 : Int)), p0.2.2.2.2.2.2.2.2.2.2.2.1, !(p0.2.2.2.2.2.2.2.2.2.2.2.2.2.2.1 == ([] : Bs)), !(p0.2.2.2.2.2.2.2.2.2.2.2.2.2.2.2.1 == ([] : Bs)), x52, x56] : List Bool)) (fun t3b =>
 some t3b)

-- certpath/certpathref14.known
abbrev ref14_known_O : Type := List Bs
def ref14_known (N : Nat)  : Option ref14_known_O :=
 some ([([50, 46, 53, 46, 50, 57, 46, 49, 57] : Bs), ([50, 46, 53, 46, 50, 57, 46, 49, 53] : Bs), ([50, 46, 53, 46, 50, 57, 46, 51, 55] : Bs), ([50, 46, 53, 46, 50, 57, 46, 51, 50] : Bs), ([50, 46, 53, 46, 50, 57, 46, 51, 51] : Bs), ([50, 46, 53, 46, 50, 57, 46, 51, 54] : Bs), ([50, 46, 53, 46, 50, 57, 46, 53, 52] : Bs), ([50, 46, 53, 46, 50, 57, 46, 49, 55] : Bs), ([50, 46, 53, 46, 50, 57, 46, 51, 48] : Bs), ([50, 46, 53, 46, 50, 57, 46, 49, 52] : Bs), ([50, 46, 53, 46, 50, 57, 46, 51, 53] : Bs), ([50, 46, 53, 46, 50, 57, 46, 51, 49] : Bs), ([50, 46, 53, 46, 50, 57, 46, 52, 54] : Bs)] : List Bs)

-- certpath/certpathref14.Known
abbrev ref14_Known_O : Type := Bool
def ref14_Known (N : Nat) (p0 : Bs) : Option ref14_Known_O :=
 callO (ref14_known N) fun r5 =>
 iterG (X := Int) (Y := Unit) (fun t7a k1 x2 =>
 bif decide (t7a < (r5.length : Int)) then (chk (decide ((0 : Int) ≤ t7a)) <|
 chk (decide (t7a < (r5.length : Int))) <|
 bif ((r5.getD t7a.toNat ([] : Bs)) == p0) then (some true)
 else (k1 (IntKind.i64.wrap (t7a + (1 : Int)))))
 else (x2 ()))
 N 0 (fun _ =>
 some false)

-- certpath/certpathref14.CheckInfo
abbrev ref14_CheckInfo_O : Type := Int
def ref14_CheckInfo (N : Nat) (p0 : Yq11) : Option ref14_CheckInfo_O :=
 chk ((p0.2.1 || (!p0.2.1))) <|
 chk ((p0.2.1 || (!p0.2.1))) <|
 chk (bif p0.2.1 then p0.2.1 else true) <|
 chk (bif p0.2.1 then true else true) <|
 chk (((!(bif p0.2.1 then !p0.1 else false)) || (!(!(bif p0.2.1 then !p0.1 else false))))) <|
 chk (((!(bif p0.2.1 then !p0.1 else false)) || (!(!(bif p0.2.1 then !p0.1 else false))))) <|
 chk (((!(bif p0.2.1 then !p0.1 else false)) || (!(!(bif p0.2.1 then !p0.1 else false))))) <|
 chk ((((!(bif p0.2.1 then !p0.1 else false)) && (p0.2.2.1 != ((-1) : Int))) || (!((!(bif p0.2.1 then !p0.1 else false)) && (p0.2.2.1 != ((-1) : Int)))))) <|
 chk ((((!(bif p0.2.1 then !p0.1 else false)) && (p0.2.2.1 != ((-1) : Int))) || (!((!(bif p0.2.1 then !p0.1 else false)) && (p0.2.2.1 != ((-1) : Int)))))) <|
 chk (((!(bif p0.2.1 then !p0.1 else false)) || (!(!(bif p0.2.1 then !p0.1 else false))))) <|
 chk (((bif (p0.2.2.1 != ((-1) : Int)) then ((!(bif p0.2.1 then !p0.1 else false)) && (p0.2.2.1 != ((-1) : Int))) else true) || (!(!(bif p0.2.1 then !p0.1 else false))))) <|
 chk (((bif (p0.2.2.1 != ((-1) : Int)) then true else true) || (!(!(bif p0.2.1 then !p0.1 else false))))) <|
 chk (bif bif p0.2.1 then !p0.1 else false then true else !(bif p0.2.1 then !p0.1 else false)) <|
 chk (bif bif p0.2.1 then !p0.1 else false then true else true) <|
 let x31 : Bool := bif bif p0.2.1 then !p0.1 else false then true else bif (p0.2.2.1 != ((-1) : Int)) then !p0.2.1 else false
 bif x31 then (some 7)
 else (callO (ref14_skip N p0.2.2.1) fun r34 =>
 chk (((!(!r34)) || (!(!(!r34))))) <|
 chk (((!(!r34)) || (!(!(!r34))))) <|
 chk ((((ref14_skip N p0.2.2.2.2.2.2.2.1).isSome) || (!(!(!r34))))) <|
 let r39 := (ref14_skip N p0.2.2.2.2.2.2.2.1).getD default
 chk (((!(!r34)) || (!(!(!r34))))) <|
 chk (bif !r34 then true else !(!r34)) <|
 chk (bif !r34 then true else true) <|
 chk (((!(bif !r34 then true else !r39)) || (!(!(bif !r34 then true else !r39))))) <|
 chk (((!(bif !r34 then true else !r39)) || (!(!(bif !r34 then true else !r39))))) <|
 chk ((((ref14_skip N p0.2.2.2.2.2.2.2.2.1).isSome) || (!(!(bif !r34 then true else !r39))))) <|
 let r45 := (ref14_skip N p0.2.2.2.2.2.2.2.2.1).getD default
 chk (((!(bif !r34 then true else !r39)) || (!(!(bif !r34 then true else !r39))))) <|
 chk (bif bif !r34 then true else !r39 then true else !(bif !r34 then true else !r39)) <|
 chk (bif bif !r34 then true else !r39 then true else true) <|
 chk (((!(bif bif !r34 then true else !r39 then true else !r45)) || (!(!(bif bif !r34 then true else !r39 then true else !r45))))) <|
 chk (((!(bif bif !r34 then true else !r39 then true else !r45)) || (!(!(bif bif !r34 then true else !r39 then true else !r45))))) <|
 chk ((((ref14_skip N p0.2.2.2.2.2.2.2.2.2.1).isSome) || (!(!(bif bif !r34 then true else !r39 then true else !r45))))) <|
 let r51 := (ref14_skip N p0.2.2.2.2.2.2.2.2.2.1).getD default
 chk (((!(bif bif !r34 then true else !r39 then true else !r45)) || (!(!(bif bif !r34 then true else !r39 then true else !r45))))) <|
 chk (bif bif bif !r34 then true else !r39 then true else !r45 then true else !(bif bif !r34 then true else !r39 then true else !r45)) <|
 chk (bif bif bif !r34 then true else !r39 then true else !r45 then true else true) <|
 let x53 : Bool := bif bif bif !r34 then true else !r39 then true else !r45 then true else !r51
 chk (((!x53) || (!(!x53)))) <|
 chk (((!x53) || (!(!x53)))) <|
 chk (bif x53 then true else !x53) <|
 chk (bif x53 then true else true) <|
 chk (((!(bif x53 then true else decide (p0.2.2.2.1 < (0 : Int)))) || (!(!(bif x53 then true else decide (p0.2.2.2.1 < (0 : Int))))))) <|
 chk (((!(bif x53 then true else decide (p0.2.2.2.1 < (0 : Int)))) || (!(!(bif x53 then true else decide (p0.2.2.2.1 < (0 : Int))))))) <|
 chk (bif bif x53 then true else decide (p0.2.2.2.1 < (0 : Int)) then true else !(bif x53 then true else decide (p0.2.2.2.1 < (0 : Int)))) <|
 chk (bif bif x53 then true else decide (p0.2.2.2.1 < (0 : Int)) then true else true) <|
 let x63 : Bool := bif bif x53 then true else decide (p0.2.2.2.1 < (0 : Int)) then true else decide (p0.2.2.2.1 > (511 : Int))
 bif x63 then (some 1)
 else (callO (ref14_checkOIDs N p0.2.2.2.2.1 8) fun r66 =>
 bif (r66 != (0 : Int)) then (some r66)
 else (callO (ref14_checkOIDs N p0.2.2.2.2.2.1 8) fun r72 =>
 bif (r72 != (0 : Int)) then (some r72)
 else (callO (ref14_checkMappings N p0.2.2.2.2.2.2.1) fun r78 =>
 bif (r78 != (0 : Int)) then (some r78)
 else (callO (ref14_checkNames N p0.2.2.2.2.2.2.2.2.2.2.1) fun r84 =>
 bif (r84 != (0 : Int)) then (some r84)
 else (letJ (α := Bool × Bool × Int × Int × List Bs × List Bs × (List (Bs × Bs)) × Int × Int × Int × List Yq3 × Bool × List Yq3 × List Yq3 × Bs × Bs × List Yq5 × List Yq5 × List (Bs × Bool × Bs)) (fun j1 =>
 bif p0.2.2.2.2.2.2.2.2.2.2.2.1 then (callO (ref07_CheckSubtrees N (p0.2.2.2.2.2.2.2.2.2.2.2.2.1, p0.2.2.2.2.2.2.2.2.2.2.2.2.2.1)) fun r92 =>
 bif (r92 != (0 : Int)) then (some r92)
 else (j1 (p0.1, p0.2.1, p0.2.2.1, p0.2.2.2.1, p0.2.2.2.2.1, p0.2.2.2.2.2.1, p0.2.2.2.2.2.2.1, p0.2.2.2.2.2.2.2.1, p0.2.2.2.2.2.2.2.2.1, p0.2.2.2.2.2.2.2.2.2.1, p0.2.2.2.2.2.2.2.2.2.2.1, p0.2.2.2.2.2.2.2.2.2.2.2.1, p0.2.2.2.2.2.2.2.2.2.2.2.2.1, p0.2.2.2.2.2.2.2.2.2.2.2.2.2.1, p0.2.2.2.2.2.2.2.2.2.2.2.2.2.2.1, p0.2.2.2.2.2.2.2.2.2.2.2.2.2.2.2.1, p0.2.2.2.2.2.2.2.2.2.2.2.2.2.2.2.2.1, p0.2.2.2.2.2.2.2.2.2.2.2.2.2.2.2.2.2.1, p0.2.2.2.2.2.2.2.2.2.2.2.2.2.2.2.2.2.2)))
 else (chk (((!(decide ((p0.2.2.2.2.2.2.2.2.2.2.2.2.1.length : Int) > (0 : Int)))) || (!(!(decide ((p0.2.2.2.2.2.2.2.2.2.2.2.2.1.length : Int) > (0 : Int))))))) <|
 chk (((!(decide ((p0.2.2.2.2.2.2.2.2.2.2.2.2.1.length : Int) > (0 : Int)))) || (!(!(decide ((p0.2.2.2.2.2.2.2.2.2.2.2.2.1.length : Int) > (0 : Int))))))) <|
 chk (((!(decide ((p0.2.2.2.2.2.2.2.2.2.2.2.2.1.length : Int) > (0 : Int)))) || (!(!(decide ((p0.2.2.2.2.2.2.2.2.2.2.2.2.1.length : Int) > (0 : Int))))))) <|
 chk (((!(decide ((p0.2.2.2.2.2.2.2.2.2.2.2.2.1.length : Int) > (0 : Int)))) || (!(!(decide ((p0.2.2.2.2.2.2.2.2.2.2.2.2.1.length : Int) > (0 : Int))))))) <|
 chk (bif decide ((p0.2.2.2.2.2.2.2.2.2.2.2.2.1.length : Int) > (0 : Int)) then true else !(decide ((p0.2.2.2.2.2.2.2.2.2.2.2.2.1.length : Int) > (0 : Int)))) <|
 chk (bif decide ((p0.2.2.2.2.2.2.2.2.2.2.2.2.1.length : Int) > (0 : Int)) then true else true) <|
 let x107 : Bool := bif decide ((p0.2.2.2.2.2.2.2.2.2.2.2.2.1.length : Int) > (0 : Int)) then true else decide ((p0.2.2.2.2.2.2.2.2.2.2.2.2.2.1.length : Int) > (0 : Int))
 bif x107 then (some 7)
 else (j1 (p0.1, p0.2.1, p0.2.2.1, p0.2.2.2.1, p0.2.2.2.2.1, p0.2.2.2.2.2.1, p0.2.2.2.2.2.2.1, p0.2.2.2.2.2.2.2.1, p0.2.2.2.2.2.2.2.2.1, p0.2.2.2.2.2.2.2.2.2.1, p0.2.2.2.2.2.2.2.2.2.2.1, p0.2.2.2.2.2.2.2.2.2.2.2.1, p0.2.2.2.2.2.2.2.2.2.2.2.2.1, p0.2.2.2.2.2.2.2.2.2.2.2.2.2.1, p0.2.2.2.2.2.2.2.2.2.2.2.2.2.2.1, p0.2.2.2.2.2.2.2.2.2.2.2.2.2.2.2.1, p0.2.2.2.2.2.2.2.2.2.2.2.2.2.2.2.2.1, p0.2.2.2.2.2.2.2.2.2.2.2.2.2.2.2.2.2.1, p0.2.2.2.2.2.2.2.2.2.2.2.2.2.2.2.2.2.2))))
 (U19 fun b33024_0a b33024_1a b33024_2a b33024_3a b33024_4a b33024_5a b33024_6a b33024_7a b33024_8a b33024_9a b33024_10a b33024_11a b33024_12a b33024_13a b33024_14a b33024_15a b33024_16a b33024_17a b33024_18a =>
 chk (((!(decide ((b33024_14a.length : Int) > (32 : Int)))) || (!(!(decide ((b33024_14a.length : Int) > (32 : Int))))))) <|
 chk (((!(decide ((b33024_14a.length : Int) > (32 : Int)))) || (!(!(decide ((b33024_14a.length : Int) > (32 : Int))))))) <|
 chk (((!(decide ((b33024_14a.length : Int) > (32 : Int)))) || (!(!(decide ((b33024_14a.length : Int) > (32 : Int))))))) <|
 chk (bif decide ((b33024_14a.length : Int) > (32 : Int)) then true else !(decide ((b33024_14a.length : Int) > (32 : Int)))) <|
 chk (bif decide ((b33024_14a.length : Int) > (32 : Int)) then true else true) <|
 let x117 : Bool := bif decide ((b33024_14a.length : Int) > (32 : Int)) then true else decide ((b33024_15a.length : Int) > (32 : Int))
 bif x117 then (some 2)
 else (callO (ref14_CheckPoints N b33024_16a) fun r120 =>
 bif (r120 != (0 : Int)) then (some r120)
 else (callO (ref14_CheckPoints N b33024_17a) fun r126 =>
 bif (r126 != (0 : Int)) then (some r126)
 else (callO (ref14_Count N (b33024_0a, b33024_1a, b33024_2a, b33024_3a, b33024_4a, b33024_5a, b33024_6a, b33024_7a, b33024_8a, b33024_9a, b33024_10a, b33024_11a, b33024_12a, b33024_13a, b33024_14a, b33024_15a, b33024_16a, b33024_17a, b33024_18a)) fun r131 =>
 bif decide (r131 > (24 : Int)) then (some 2)
 else (iterG (X := Int × Bool × Bool × Int × Int × List Bs × List Bs × (List (Bs × Bs)) × Int × Int × Int × List Yq3 × Bool × List Yq3 × List Yq3 × Bs × Bs × List Yq5 × List Yq5 × List (Bs × Bool × Bs)) (Y := Unit) (U20 fun t136b b33024_0b b33024_1b b33024_2b b33024_3b b33024_4b b33024_5b b33024_6b b33024_7b b33024_8b b33024_9b b33024_10b b33024_11b b33024_12b b33024_13b b33024_14b b33024_15b b33024_16b b33024_17b b33024_18b k2 x3 =>
 bif decide (t136b < (b33024_18a.length : Int)) then (chk (decide ((0 : Int) ≤ t136b)) <|
 chk (decide (t136b < (b33024_18a.length : Int))) <|
 callO (ref01_ValidOID N ((b33024_18a.getD t136b.toNat (([] : Bs), false, ([] : Bs))).1)) fun r143 =>
 bif !r143 then (some 11)
 else (callO (ref14_Known N ((b33024_18a.getD t136b.toNat (([] : Bs), false, ([] : Bs))).1)) fun r147 =>
 bif r147 then (some 20)
 else (chk (decide ((0 : Int) ≤ t136b)) <|
 chk (decide (t136b ≤ (b33024_18b.length : Int))) <|
 callO (ref14_Find N (cutL b33024_18b 0 t136b.toNat) ((b33024_18a.getD t136b.toNat (([] : Bs), false, ([] : Bs))).1)) fun r155 =>
 bif r155.2 then (some 10)
 else (callO (ref01_Check N ((b33024_18a.getD t136b.toNat (([] : Bs), false, ([] : Bs))).2.2)) fun r161 =>
 bif (r161 != (0 : Int)) then (some r161)
 else (k2 (IntKind.i64.wrap (t136b + (1 : Int)), b33024_0b, b33024_1b, b33024_2b, b33024_3b, b33024_4b, b33024_5b, b33024_6b, b33024_7b, b33024_8b, b33024_9b, b33024_10b, b33024_11b, b33024_12b, b33024_13b, b33024_14b, b33024_15b, b33024_16b, b33024_17b, b33024_18b))))))
 else (x3 ()))
 N (0, b33024_0a, b33024_1a, b33024_2a, b33024_3a, b33024_4a, b33024_5a, b33024_6a, b33024_7a, b33024_8a, b33024_9a, b33024_10a, b33024_11a, b33024_12a, b33024_13a, b33024_14a, b33024_15a, b33024_16a, b33024_17a, b33024_18a) (fun _ =>
 some 0))))))))))))

-- certpath/certpathref14.CheckCert
abbrev ref14_CheckCert_O : Type := Int
def ref14_CheckCert (N : Nat) (p0 : Yq12) : Option ref14_CheckCert_O :=
 chk (((!(decide (p0.2.2.1 < (1 : Int)))) || (!(!(decide (p0.2.2.1 < (1 : Int))))))) <|
 chk (((!(decide (p0.2.2.1 < (1 : Int)))) || (!(!(decide (p0.2.2.1 < (1 : Int))))))) <|
 chk (bif decide (p0.2.2.1 < (1 : Int)) then true else !(decide (p0.2.2.1 < (1 : Int)))) <|
 chk (bif decide (p0.2.2.1 < (1 : Int)) then true else true) <|
 let x13 : Bool := bif decide (p0.2.2.1 < (1 : Int)) then true else decide (p0.2.2.1 > (4611686018427387904 : Int))
 bif x13 then (some 21)
 else (bif ((p0.2.2.2.1.length : Int) == (0 : Int)) then (some 14)
 else (callO (ref07_CheckName N p0.2.2.2.1) fun r21 =>
 bif (r21 != (0 : Int)) then (some r21)
 else (chk (((!(decide (p0.2.2.2.2.2.1 < (0 : Int)))) || (!(!(decide (p0.2.2.2.2.2.1 < (0 : Int))))))) <|
 chk (((!(decide (p0.2.2.2.2.2.1 < (0 : Int)))) || (!(!(decide (p0.2.2.2.2.2.1 < (0 : Int))))))) <|
 chk (bif decide (p0.2.2.2.2.2.1 < (0 : Int)) then true else !(decide (p0.2.2.2.2.2.1 < (0 : Int)))) <|
 chk (bif decide (p0.2.2.2.2.2.1 < (0 : Int)) then true else true) <|
 let x32 : Bool := bif decide (p0.2.2.2.2.2.1 < (0 : Int)) then true else decide (p0.2.2.2.2.2.1 > (254033452799 : Int))
 chk (((!x32) || (!(!x32)))) <|
 chk (((!x32) || (!(!x32)))) <|
 chk (bif x32 then true else !x32) <|
 chk (bif x32 then true else true) <|
 chk (((!(bif x32 then true else decide (p0.2.2.2.2.2.2.1 < (0 : Int)))) || (!(!(bif x32 then true else decide (p0.2.2.2.2.2.2.1 < (0 : Int))))))) <|
 chk (((!(bif x32 then true else decide (p0.2.2.2.2.2.2.1 < (0 : Int)))) || (!(!(bif x32 then true else decide (p0.2.2.2.2.2.2.1 < (0 : Int))))))) <|
 chk (bif bif x32 then true else decide (p0.2.2.2.2.2.2.1 < (0 : Int)) then true else !(bif x32 then true else decide (p0.2.2.2.2.2.2.1 < (0 : Int)))) <|
 chk (bif bif x32 then true else decide (p0.2.2.2.2.2.2.1 < (0 : Int)) then true else true) <|
 let x42 : Bool := bif bif x32 then true else decide (p0.2.2.2.2.2.2.1 < (0 : Int)) then true else decide (p0.2.2.2.2.2.2.1 > (254033452799 : Int))
 chk (((!x42) || (!(!x42)))) <|
 chk (((!x42) || (!(!x42)))) <|
 chk (((!x42) || (!(!x42)))) <|
 chk (((!x42) || (!(!x42)))) <|
 chk (bif x42 then true else !x42) <|
 chk (bif x42 then true else true) <|
 bif bif x42 then true else decide (p0.2.2.2.2.2.1 > p0.2.2.2.2.2.2.1) then (some 12)
 else (callO (ref07_CheckName N p0.2.2.2.2.1) fun r52 =>
 bif (r52 != (0 : Int)) then (some r52)
 else (chk ((p0.2.2.2.2.2.2.2.2.2.2.2.1 || (!p0.2.2.2.2.2.2.2.2.2.2.2.1))) <|
 chk ((p0.2.2.2.2.2.2.2.2.2.2.2.1 || (!p0.2.2.2.2.2.2.2.2.2.2.2.1))) <|
 chk ((p0.2.2.2.2.2.2.2.2.2.2.2.1 || (!p0.2.2.2.2.2.2.2.2.2.2.2.1))) <|
 chk ((p0.2.2.2.2.2.2.2.2.2.2.2.1 || (!p0.2.2.2.2.2.2.2.2.2.2.2.1))) <|
 chk (bif p0.2.2.2.2.2.2.2.2.2.2.2.1 then p0.2.2.2.2.2.2.2.2.2.2.2.1 else true) <|
 chk (bif p0.2.2.2.2.2.2.2.2.2.2.2.1 then true else true) <|
 let x65 : Bool := bif p0.2.2.2.2.2.2.2.2.2.2.2.1 then ((p0.2.2.2.2.1.length : Int) == (0 : Int)) else false
 bif x65 then (some 14)
 else (callO (ref11_CheckKey N (p0.2.2.2.2.2.2.2.1, p0.2.2.2.2.2.2.2.2.1, p0.2.2.2.2.2.2.2.2.2.1)) fun r68 =>
 bif (r68 != (0 : Int)) then (some r68)
 else (callO (ref14_CheckInfo N (p0.2.2.2.2.2.2.2.2.2.2.1, p0.2.2.2.2.2.2.2.2.2.2.2.1, p0.2.2.2.2.2.2.2.2.2.2.2.2.1, p0.2.2.2.2.2.2.2.2.2.2.2.2.2.1, p0.2.2.2.2.2.2.2.2.2.2.2.2.2.2.1, p0.2.2.2.2.2.2.2.2.2.2.2.2.2.2.2.1, p0.2.2.2.2.2.2.2.2.2.2.2.2.2.2.2.2.1, p0.2.2.2.2.2.2.2.2.2.2.2.2.2.2.2.2.2.1, p0.2.2.2.2.2.2.2.2.2.2.2.2.2.2.2.2.2.2.1, p0.2.2.2.2.2.2.2.2.2.2.2.2.2.2.2.2.2.2.2.1, p0.2.2.2.2.2.2.2.2.2.2.2.2.2.2.2.2.2.2.2.2.1, p0.2.2.2.2.2.2.2.2.2.2.2.2.2.2.2.2.2.2.2.2.2.1, p0.2.2.2.2.2.2.2.2.2.2.2.2.2.2.2.2.2.2.2.2.2.2.1, p0.2.2.2.2.2.2.2.2.2.2.2.2.2.2.2.2.2.2.2.2.2.2.2.1, p0.2.2.2.2.2.2.2.2.2.2.2.2.2.2.2.2.2.2.2.2.2.2.2.2.1, p0.2.2.2.2.2.2.2.2.2.2.2.2.2.2.2.2.2.2.2.2.2.2.2.2.2.1, p0.2.2.2.2.2.2.2.2.2.2.2.2.2.2.2.2.2.2.2.2.2.2.2.2.2.2.1, p0.2.2.2.2.2.2.2.2.2.2.2.2.2.2.2.2.2.2.2.2.2.2.2.2.2.2.2.1, p0.2.2.2.2.2.2.2.2.2.2.2.2.2.2.2.2.2.2.2.2.2.2.2.2.2.2.2.2.1)) fun r74 =>
 some r74)))))))

-- certpath/certpathref11.B1
abbrev ref11_B1_O : Type := Bs
def ref11_B1 (N : Nat) (p0 : Int) : Option ref11_B1_O :=
 chk (List.all ([IntKind.u8.wrap p0] : List Int) isByte) <|
 some (List.map byteOf ([IntKind.u8.wrap p0] : List Int))

-- certpath/certpathref14.raw
abbrev ref14_raw_O : Type := Bs
def ref14_raw (N : Nat) (p0 : Int × Bs × Bs) : Option ref14_raw_O :=
 callO (ref11_B1 N p0.1) fun r5 =>
 chk (decide (r5.length + p0.2.1.length ≤ 140737488355328)) <|
 chk (decide ((r5 ++ p0.2.1).length + p0.2.2.length ≤ 140737488355328)) <|
 some ((r5 ++ p0.2.1) ++ p0.2.2)

-- certpath/certpathref14.EncodeKey
abbrev ref14_EncodeKey_O : Type := Bs × Int
def ref14_EncodeKey (N : Nat) (p0 : Int × Bs × Bs) : Option ref14_EncodeKey_O :=
 callO (ref11_CheckKey N p0) fun r6 =>
 bif (r6 != (0 : Int)) then (some (([] : Bs), r6))
 else (callO (ref14_Algorithm N) fun r10 =>
 callO (ref14_raw N p0) fun r12 =>
 chk (decide (1 + r12.length ≤ 140737488355328)) <|
 callO (ref07_Wrap N 3 ([([0] : Bs) ++ r12] : List Bs)) fun r15 =>
 callO (ref07_Wrap N 48 ([r10, r15] : List Bs)) fun r17 =>
 some (r17, 0))

-- certpath/certpathref07.part
abbrev ref07_part_O : Type := Bs × Int
def ref07_part (N : Nat) (p0 : Int) (p1 : List Yq3) : Option ref07_part_O :=
 bif ((p1.length : Int) == (0 : Int)) then (some (([] : Bs), 0))
 else (iterG (X := Bs × Int) (Y := Bs) (U2 fun t6a t16a k1 x2 =>
 bif decide (t16a < (p1.length : Int)) then (chk (decide ((0 : Int) ≤ t16a)) <|
 chk (decide (t16a < (p1.length : Int))) <|
 callO (ref07_EncodeGeneral N (p1.getD t16a.toNat (0, ([] : Bs), ([] : List Yq2))) true) fun r22 =>
 callO (ref07_Wrap N 48 ([r22.1] : List Bs)) fun r28 =>
 chk (decide (t6a.length + r28.length ≤ 140737488355328)) <|
 k1 (t6a ++ r28, IntKind.i64.wrap (t16a + (1 : Int))))
 else (x2 t6a))
 N (([] : Bs), 0) (fun t6b =>
 callO (ref07_Fit N p0 ([t6b] : List Bs)) fun r34 =>
 some (r34.1, r34.2)))

-- certpath/certpathref07.EncodeSubtrees
abbrev ref07_EncodeSubtrees_O : Type := Bs × Int
def ref07_EncodeSubtrees (N : Nat) (p0 : Yq10) : Option ref07_EncodeSubtrees_O :=
 callO (ref07_CheckSubtrees N p0) fun r9 =>
 bif (r9 != (0 : Int)) then (some (([] : Bs), r9))
 else (callO (ref07_part N 160 p0.1) fun r16 =>
 bif (r16.2 != (0 : Int)) then (some (([] : Bs), r16.2))
 else (callO (ref07_part N 161 p0.2) fun r25 =>
 bif (r25.2 != (0 : Int)) then (some (([] : Bs), r25.2))
 else (callO (ref07_Fit N 48 ([r16.1, r25.1] : List Bs)) fun r34 =>
 some (r34.1, r34.2))))

-- certpath/certpathref14.EncodeInfo
abbrev ref14_EncodeInfo_O : Type := Yq9 × Int
def ref14_EncodeInfo (N : Nat) (p0 : Yq11) : Option ref14_EncodeInfo_O :=
 callO (ref14_CheckInfo N p0) fun r26 =>
 bif (r26 != (0 : Int)) then (some (([] : List (Bs × Bool × Bs)), r26))
 else (letJ (α := Bool × Bool × Int × Int × List Bs × List Bs × (List (Bs × Bs)) × Int × Int × Int × List Yq3 × Bool × List Yq3 × List Yq3 × Bs × Bs × List Yq5 × List Yq5 × (List (Bs × Bool × Bs)) × List (Bs × Bool × Bs)) (fun j1 =>
 bif p0.1 then (callO (ref14_boolean N 1 p0.2.1) fun r34 =>
 letJ (α := Bs × Bool × Bool × Int × Int × List Bs × List Bs × (List (Bs × Bs)) × Int × Int × Int × List Yq3 × Bool × List Yq3 × List Yq3 × Bs × Bs × List Yq5 × List Yq5 × List (Bs × Bool × Bs)) (fun j2 =>
 bif decide (p0.2.2.1 ≥ (0 : Int)) then (callO (ref14_number N 2 p0.2.2.1) fun r41 =>
 chk (decide (r34.length + r41.length ≤ 140737488355328)) <|
 j2 (r34 ++ r41, p0.1, p0.2.1, p0.2.2.1, p0.2.2.2.1, p0.2.2.2.2.1, p0.2.2.2.2.2.1, p0.2.2.2.2.2.2.1, p0.2.2.2.2.2.2.2.1, p0.2.2.2.2.2.2.2.2.1, p0.2.2.2.2.2.2.2.2.2.1, p0.2.2.2.2.2.2.2.2.2.2.1, p0.2.2.2.2.2.2.2.2.2.2.2.1, p0.2.2.2.2.2.2.2.2.2.2.2.2.1, p0.2.2.2.2.2.2.2.2.2.2.2.2.2.1, p0.2.2.2.2.2.2.2.2.2.2.2.2.2.2.1, p0.2.2.2.2.2.2.2.2.2.2.2.2.2.2.2.1, p0.2.2.2.2.2.2.2.2.2.2.2.2.2.2.2.2.1, p0.2.2.2.2.2.2.2.2.2.2.2.2.2.2.2.2.2.1, p0.2.2.2.2.2.2.2.2.2.2.2.2.2.2.2.2.2.2))
 else (j2 (r34, p0.1, p0.2.1, p0.2.2.1, p0.2.2.2.1, p0.2.2.2.2.1, p0.2.2.2.2.2.1, p0.2.2.2.2.2.2.1, p0.2.2.2.2.2.2.2.1, p0.2.2.2.2.2.2.2.2.1, p0.2.2.2.2.2.2.2.2.2.1, p0.2.2.2.2.2.2.2.2.2.2.1, p0.2.2.2.2.2.2.2.2.2.2.2.1, p0.2.2.2.2.2.2.2.2.2.2.2.2.1, p0.2.2.2.2.2.2.2.2.2.2.2.2.2.1, p0.2.2.2.2.2.2.2.2.2.2.2.2.2.2.1, p0.2.2.2.2.2.2.2.2.2.2.2.2.2.2.2.1, p0.2.2.2.2.2.2.2.2.2.2.2.2.2.2.2.2.1, p0.2.2.2.2.2.2.2.2.2.2.2.2.2.2.2.2.2.1, p0.2.2.2.2.2.2.2.2.2.2.2.2.2.2.2.2.2.2)))
 (U20 fun t6b b33024_0b b33024_1b b33024_2b b33024_3b b33024_4b b33024_5b b33024_6b b33024_7b b33024_8b b33024_9b b33024_10b b33024_11b b33024_12b b33024_13b b33024_14b b33024_15b b33024_16b b33024_17b b33024_18b =>
 callO (ref07_Wrap N 48 ([t6b] : List Bs)) fun r46 =>
 j1 (b33024_0b, b33024_1b, b33024_2b, b33024_3b, b33024_4b, b33024_5b, b33024_6b, b33024_7b, b33024_8b, b33024_9b, b33024_10b, b33024_11b, b33024_12b, b33024_13b, b33024_14b, b33024_15b, b33024_16b, b33024_17b, b33024_18b, ([(([50, 46, 53, 46, 50, 57, 46, 49, 57] : Bs), true, r46)] : List (Bs × Bool × Bs)))))
 else (j1 (p0.1, p0.2.1, p0.2.2.1, p0.2.2.2.1, p0.2.2.2.2.1, p0.2.2.2.2.2.1, p0.2.2.2.2.2.2.1, p0.2.2.2.2.2.2.2.1, p0.2.2.2.2.2.2.2.2.1, p0.2.2.2.2.2.2.2.2.2.1, p0.2.2.2.2.2.2.2.2.2.2.1, p0.2.2.2.2.2.2.2.2.2.2.2.1, p0.2.2.2.2.2.2.2.2.2.2.2.2.1, p0.2.2.2.2.2.2.2.2.2.2.2.2.2.1, p0.2.2.2.2.2.2.2.2.2.2.2.2.2.2.1, p0.2.2.2.2.2.2.2.2.2.2.2.2.2.2.2.1, p0.2.2.2.2.2.2.2.2.2.2.2.2.2.2.2.2.1, p0.2.2.2.2.2.2.2.2.2.2.2.2.2.2.2.2.2.1, p0.2.2.2.2.2.2.2.2.2.2.2.2.2.2.2.2.2.2, ([] : List (Bs × Bool × Bs)))))
 (U20 fun b33024_0a b33024_1a b33024_2a b33024_3a b33024_4a b33024_5a b33024_6a b33024_7a b33024_8a b33024_9a b33024_10a b33024_11a b33024_12a b33024_13a b33024_14a b33024_15a b33024_16a b33024_17a b33024_18a l1000000a =>
 letJ (α := Bool × Bool × Int × Int × List Bs × List Bs × (List (Bs × Bs)) × Int × Int × Int × List Yq3 × Bool × List Yq3 × List Yq3 × Bs × Bs × List Yq5 × List Yq5 × (List (Bs × Bool × Bs)) × List (Bs × Bool × Bs)) (fun j3 =>
 bif (b33024_3a != (0 : Int)) then (callO (ref14_flags N 3 b33024_3a) fun r56 =>
 chk (decide ((l1000000a.length + 1) * 41 ≤ 140737488355328)) <|
 let y47872 : List (Bs × Bool × Bs) := l1000000a ++ ([(([50, 46, 53, 46, 50, 57, 46, 49, 53] : Bs), true, r56)] : List (Bs × Bool × Bs))
 j3 (b33024_0a, b33024_1a, b33024_2a, b33024_3a, b33024_4a, b33024_5a, b33024_6a, b33024_7a, b33024_8a, b33024_9a, b33024_10a, b33024_11a, b33024_12a, b33024_13a, b33024_14a, b33024_15a, b33024_16a, b33024_17a, b33024_18a, y47872))
 else (j3 (b33024_0a, b33024_1a, b33024_2a, b33024_3a, b33024_4a, b33024_5a, b33024_6a, b33024_7a, b33024_8a, b33024_9a, b33024_10a, b33024_11a, b33024_12a, b33024_13a, b33024_14a, b33024_15a, b33024_16a, b33024_17a, b33024_18a, l1000000a)))
 (U20 fun b33024_0c b33024_1c b33024_2c b33024_3c b33024_4c b33024_5c b33024_6c b33024_7c b33024_8c b33024_9c b33024_10c b33024_11c b33024_12c b33024_13c b33024_14c b33024_15c b33024_16c b33024_17c b33024_18c l1008192c =>
 letJ (α := Bool × Bool × Int × Int × List Bs × List Bs × (List (Bs × Bs)) × Int × Int × Int × List Yq3 × Bool × List Yq3 × List Yq3 × Bs × Bs × List Yq5 × List Yq5 × (List (Bs × Bool × Bs)) × List (Bs × Bool × Bs)) (fun j4 =>
 bif decide ((b33024_4c.length : Int) > (0 : Int)) then (iterG (X := Bs × Int × Bool × Bool × Int × Int × List Bs × List Bs × (List (Bs × Bs)) × Int × Int × Int × List Yq3 × Bool × List Yq3 × List Yq3 × Bs × Bs × List Yq5 × List Yq5 × (List (Bs × Bool × Bs)) × List (Bs × Bool × Bs)) (Y := (Bs × Bool × Bool × Int × Int × List Bs × List Bs × (List (Bs × Bs)) × Int × Int × Int × List Yq3 × Bool × List Yq3 × List Yq3 × Bs × Bs × List Yq5 × List Yq5 × (List (Bs × Bool × Bs)) × List (Bs × Bool × Bs))) (U22 fun t7e t67e b33024_0e b33024_1e b33024_2e b33024_3e b33024_4e b33024_5e b33024_6e b33024_7e b33024_8e b33024_9e b33024_10e b33024_11e b33024_12e b33024_13e b33024_14e b33024_15e b33024_16e b33024_17e b33024_18e l1008192e k5 x6 =>
 bif decide (t67e < (b33024_4c.length : Int)) then (chk (decide ((0 : Int) ≤ t67e)) <|
 chk (decide (t67e < (b33024_4c.length : Int))) <|
 callO (ref07_OID N (b33024_4c.getD t67e.toNat ([] : Bs))) fun r73 =>
 chk (decide (t7e.length + r73.length ≤ 140737488355328)) <|
 k5 (t7e ++ r73, IntKind.i64.wrap (t67e + (1 : Int)), b33024_0e, b33024_1e, b33024_2e, b33024_3e, b33024_4e, b33024_5e, b33024_6e, b33024_7e, b33024_8e, b33024_9e, b33024_10e, b33024_11e, b33024_12e, b33024_13e, b33024_14e, b33024_15e, b33024_16e, b33024_17e, b33024_18e, l1008192e))
 else (x6 (t7e, b33024_0e, b33024_1e, b33024_2e, b33024_3e, b33024_4e, b33024_5e, b33024_6e, b33024_7e, b33024_8e, b33024_9e, b33024_10e, b33024_11e, b33024_12e, b33024_13e, b33024_14e, b33024_15e, b33024_16e, b33024_17e, b33024_18e, l1008192e)))
 N (([] : Bs), 0, b33024_0c, b33024_1c, b33024_2c, b33024_3c, b33024_4c, b33024_5c, b33024_6c, b33024_7c, b33024_8c, b33024_9c, b33024_10c, b33024_11c, b33024_12c, b33024_13c, b33024_14c, b33024_15c, b33024_16c, b33024_17c, b33024_18c, l1008192c) (U21 fun t7f b33024_0f b33024_1f b33024_2f b33024_3f b33024_4f b33024_5f b33024_6f b33024_7f b33024_8f b33024_9f b33024_10f b33024_11f b33024_12f b33024_13f b33024_14f b33024_15f b33024_16f b33024_17f b33024_18f l1008192f =>
 callO (ref07_Wrap N 48 ([t7f] : List Bs)) fun r79 =>
 chk (decide ((l1008192f.length + 1) * 41 ≤ 140737488355328)) <|
 let y53760 : List (Bs × Bool × Bs) := l1008192f ++ ([(([50, 46, 53, 46, 50, 57, 46, 51, 55] : Bs), false, r79)] : List (Bs × Bool × Bs))
 j4 (b33024_0f, b33024_1f, b33024_2f, b33024_3f, b33024_4f, b33024_5f, b33024_6f, b33024_7f, b33024_8f, b33024_9f, b33024_10f, b33024_11f, b33024_12f, b33024_13f, b33024_14f, b33024_15f, b33024_16f, b33024_17f, b33024_18f, y53760)))
 else (j4 (b33024_0c, b33024_1c, b33024_2c, b33024_3c, b33024_4c, b33024_5c, b33024_6c, b33024_7c, b33024_8c, b33024_9c, b33024_10c, b33024_11c, b33024_12c, b33024_13c, b33024_14c, b33024_15c, b33024_16c, b33024_17c, b33024_18c, l1008192c)))
 (U20 fun b33024_0d b33024_1d b33024_2d b33024_3d b33024_4d b33024_5d b33024_6d b33024_7d b33024_8d b33024_9d b33024_10d b33024_11d b33024_12d b33024_13d b33024_14d b33024_15d b33024_16d b33024_17d b33024_18d l1012288d =>
 letJ (α := Bool × Bool × Int × Int × List Bs × List Bs × (List (Bs × Bs)) × Int × Int × Int × List Yq3 × Bool × List Yq3 × List Yq3 × Bs × Bs × List Yq5 × List Yq5 × (List (Bs × Bool × Bs)) × List (Bs × Bool × Bs)) (fun j7 =>
 bif decide ((b33024_5d.length : Int) > (0 : Int)) then (iterG (X := Bs × Int × Bool × Bool × Int × Int × List Bs × List Bs × (List (Bs × Bs)) × Int × Int × Int × List Yq3 × Bool × List Yq3 × List Yq3 × Bs × Bs × List Yq5 × List Yq5 × (List (Bs × Bool × Bs)) × List (Bs × Bool × Bs)) (Y := (Bs × Bool × Bool × Int × Int × List Bs × List Bs × (List (Bs × Bs)) × Int × Int × Int × List Yq3 × Bool × List Yq3 × List Yq3 × Bs × Bs × List Yq5 × List Yq5 × (List (Bs × Bool × Bs)) × List (Bs × Bool × Bs))) (U22 fun t10h t90h b33024_0h b33024_1h b33024_2h b33024_3h b33024_4h b33024_5h b33024_6h b33024_7h b33024_8h b33024_9h b33024_10h b33024_11h b33024_12h b33024_13h b33024_14h b33024_15h b33024_16h b33024_17h b33024_18h l1012288h k8 x9 =>
 bif decide (t90h < (b33024_5d.length : Int)) then (chk (decide ((0 : Int) ≤ t90h)) <|
 chk (decide (t90h < (b33024_5d.length : Int))) <|
 callO (ref07_OID N (b33024_5d.getD t90h.toNat ([] : Bs))) fun r96 =>
 callO (ref07_Wrap N 48 ([r96] : List Bs)) fun r98 =>
 chk (decide (t10h.length + r98.length ≤ 140737488355328)) <|
 k8 (t10h ++ r98, IntKind.i64.wrap (t90h + (1 : Int)), b33024_0h, b33024_1h, b33024_2h, b33024_3h, b33024_4h, b33024_5h, b33024_6h, b33024_7h, b33024_8h, b33024_9h, b33024_10h, b33024_11h, b33024_12h, b33024_13h, b33024_14h, b33024_15h, b33024_16h, b33024_17h, b33024_18h, l1012288h))
 else (x9 (t10h, b33024_0h, b33024_1h, b33024_2h, b33024_3h, b33024_4h, b33024_5h, b33024_6h, b33024_7h, b33024_8h, b33024_9h, b33024_10h, b33024_11h, b33024_12h, b33024_13h, b33024_14h, b33024_15h, b33024_16h, b33024_17h, b33024_18h, l1012288h)))
 N (([] : Bs), 0, b33024_0d, b33024_1d, b33024_2d, b33024_3d, b33024_4d, b33024_5d, b33024_6d, b33024_7d, b33024_8d, b33024_9d, b33024_10d, b33024_11d, b33024_12d, b33024_13d, b33024_14d, b33024_15d, b33024_16d, b33024_17d, b33024_18d, l1012288d) (U21 fun t10i b33024_0i b33024_1i b33024_2i b33024_3i b33024_4i b33024_5i b33024_6i b33024_7i b33024_8i b33024_9i b33024_10i b33024_11i b33024_12i b33024_13i b33024_14i b33024_15i b33024_16i b33024_17i b33024_18i l1012288i =>
 callO (ref07_Wrap N 48 ([t10i] : List Bs)) fun r104 =>
 chk (decide ((l1012288i.length + 1) * 41 ≤ 140737488355328)) <|
 let y60160 : List (Bs × Bool × Bs) := l1012288i ++ ([(([50, 46, 53, 46, 50, 57, 46, 51, 50] : Bs), false, r104)] : List (Bs × Bool × Bs))
 j7 (b33024_0i, b33024_1i, b33024_2i, b33024_3i, b33024_4i, b33024_5i, b33024_6i, b33024_7i, b33024_8i, b33024_9i, b33024_10i, b33024_11i, b33024_12i, b33024_13i, b33024_14i, b33024_15i, b33024_16i, b33024_17i, b33024_18i, y60160)))
 else (j7 (b33024_0d, b33024_1d, b33024_2d, b33024_3d, b33024_4d, b33024_5d, b33024_6d, b33024_7d, b33024_8d, b33024_9d, b33024_10d, b33024_11d, b33024_12d, b33024_13d, b33024_14d, b33024_15d, b33024_16d, b33024_17d, b33024_18d, l1012288d)))
 (U20 fun b33024_0g b33024_1g b33024_2g b33024_3g b33024_4g b33024_5g b33024_6g b33024_7g b33024_8g b33024_9g b33024_10g b33024_11g b33024_12g b33024_13g b33024_14g b33024_15g b33024_16g b33024_17g b33024_18g l1024576g =>
 letJ (α := Bool × Bool × Int × Int × List Bs × List Bs × (List (Bs × Bs)) × Int × Int × Int × List Yq3 × Bool × List Yq3 × List Yq3 × Bs × Bs × List Yq5 × List Yq5 × (List (Bs × Bool × Bs)) × List (Bs × Bool × Bs)) (fun j10 =>
 bif decide ((b33024_6g.length : Int) > (0 : Int)) then (iterG (X := Bs × Int × Bool × Bool × Int × Int × List Bs × List Bs × (List (Bs × Bs)) × Int × Int × Int × List Yq3 × Bool × List Yq3 × List Yq3 × Bs × Bs × List Yq5 × List Yq5 × (List (Bs × Bool × Bs)) × List (Bs × Bool × Bs)) (Y := (Bs × Bool × Bool × Int × Int × List Bs × List Bs × (List (Bs × Bs)) × Int × Int × Int × List Yq3 × Bool × List Yq3 × List Yq3 × Bs × Bs × List Yq5 × List Yq5 × (List (Bs × Bool × Bs)) × List (Bs × Bool × Bs))) (U22 fun t13k t115k b33024_0k b33024_1k b33024_2k b33024_3k b33024_4k b33024_5k b33024_6k b33024_7k b33024_8k b33024_9k b33024_10k b33024_11k b33024_12k b33024_13k b33024_14k b33024_15k b33024_16k b33024_17k b33024_18k l1024576k k11 x12 =>
 bif decide (t115k < (b33024_6g.length : Int)) then (chk (decide ((0 : Int) ≤ t115k)) <|
 chk (decide (t115k < (b33024_6g.length : Int))) <|
 callO (ref07_OID N ((b33024_6g.getD t115k.toNat (([] : Bs), ([] : Bs))).1)) fun r122 =>
 callO (ref07_OID N ((b33024_6g.getD t115k.toNat (([] : Bs), ([] : Bs))).2)) fun r125 =>
 callO (ref07_Wrap N 48 ([r122, r125] : List Bs)) fun r127 =>
 chk (decide (t13k.length + r127.length ≤ 140737488355328)) <|
 k11 (t13k ++ r127, IntKind.i64.wrap (t115k + (1 : Int)), b33024_0k, b33024_1k, b33024_2k, b33024_3k, b33024_4k, b33024_5k, b33024_6k, b33024_7k, b33024_8k, b33024_9k, b33024_10k, b33024_11k, b33024_12k, b33024_13k, b33024_14k, b33024_15k, b33024_16k, b33024_17k, b33024_18k, l1024576k))
 else (x12 (t13k, b33024_0k, b33024_1k, b33024_2k, b33024_3k, b33024_4k, b33024_5k, b33024_6k, b33024_7k, b33024_8k, b33024_9k, b33024_10k, b33024_11k, b33024_12k, b33024_13k, b33024_14k, b33024_15k, b33024_16k, b33024_17k, b33024_18k, l1024576k)))
 N (([] : Bs), 0, b33024_0g, b33024_1g, b33024_2g, b33024_3g, b33024_4g, b33024_5g, b33024_6g, b33024_7g, b33024_8g, b33024_9g, b33024_10g, b33024_11g, b33024_12g, b33024_13g, b33024_14g, b33024_15g, b33024_16g, b33024_17g, b33024_18g, l1024576g) (U21 fun t13l b33024_0l b33024_1l b33024_2l b33024_3l b33024_4l b33024_5l b33024_6l b33024_7l b33024_8l b33024_9l b33024_10l b33024_11l b33024_12l b33024_13l b33024_14l b33024_15l b33024_16l b33024_17l b33024_18l l1024576l =>
 callO (ref07_Wrap N 48 ([t13l] : List Bs)) fun r133 =>
 chk (decide ((l1024576l.length + 1) * 41 ≤ 140737488355328)) <|
 let y67584 : List (Bs × Bool × Bs) := l1024576l ++ ([(([50, 46, 53, 46, 50, 57, 46, 51, 51] : Bs), true, r133)] : List (Bs × Bool × Bs))
 j10 (b33024_0l, b33024_1l, b33024_2l, b33024_3l, b33024_4l, b33024_5l, b33024_6l, b33024_7l, b33024_8l, b33024_9l, b33024_10l, b33024_11l, b33024_12l, b33024_13l, b33024_14l, b33024_15l, b33024_16l, b33024_17l, b33024_18l, y67584)))
 else (j10 (b33024_0g, b33024_1g, b33024_2g, b33024_3g, b33024_4g, b33024_5g, b33024_6g, b33024_7g, b33024_8g, b33024_9g, b33024_10g, b33024_11g, b33024_12g, b33024_13g, b33024_14g, b33024_15g, b33024_16g, b33024_17g, b33024_18g, l1024576g)))
 (U20 fun b33024_0j b33024_1j b33024_2j b33024_3j b33024_4j b33024_5j b33024_6j b33024_7j b33024_8j b33024_9j b33024_10j b33024_11j b33024_12j b33024_13j b33024_14j b33024_15j b33024_16j b33024_17j b33024_18j l1036864j =>
 letJ (α := Bool × Bool × Int × Int × List Bs × List Bs × (List (Bs × Bs)) × Int × Int × Int × List Yq3 × Bool × List Yq3 × List Yq3 × Bs × Bs × List Yq5 × List Yq5 × (List (Bs × Bool × Bs)) × List (Bs × Bool × Bs)) (fun j13 =>
 chk (((!(decide (b33024_7j ≥ (0 : Int)))) || (!(!(decide (b33024_7j ≥ (0 : Int))))))) <|
 chk (((!(decide (b33024_7j ≥ (0 : Int)))) || (!(!(decide (b33024_7j ≥ (0 : Int))))))) <|
 chk (bif decide (b33024_7j ≥ (0 : Int)) then true else !(decide (b33024_7j ≥ (0 : Int)))) <|
 chk (bif decide (b33024_7j ≥ (0 : Int)) then true else true) <|
 let x144 : Bool := bif decide (b33024_7j ≥ (0 : Int)) then true else decide (b33024_8j ≥ (0 : Int))
 bif x144 then (letJ (α := Bs × Bool × Bool × Int × Int × List Bs × List Bs × (List (Bs × Bs)) × Int × Int × Int × List Yq3 × Bool × List Yq3 × List Yq3 × Bs × Bs × List Yq5 × List Yq5 × (List (Bs × Bool × Bs)) × List (Bs × Bool × Bs)) (fun j14 =>
 bif decide (b33024_7j ≥ (0 : Int)) then (callO (ref14_number N 128 b33024_7j) fun r150 =>
 j14 (r150, b33024_0j, b33024_1j, b33024_2j, b33024_3j, b33024_4j, b33024_5j, b33024_6j, b33024_7j, b33024_8j, b33024_9j, b33024_10j, b33024_11j, b33024_12j, b33024_13j, b33024_14j, b33024_15j, b33024_16j, b33024_17j, b33024_18j, l1036864j))
 else (j14 (([] : Bs), b33024_0j, b33024_1j, b33024_2j, b33024_3j, b33024_4j, b33024_5j, b33024_6j, b33024_7j, b33024_8j, b33024_9j, b33024_10j, b33024_11j, b33024_12j, b33024_13j, b33024_14j, b33024_15j, b33024_16j, b33024_17j, b33024_18j, l1036864j)))
 (U21 fun t16n b33024_0n b33024_1n b33024_2n b33024_3n b33024_4n b33024_5n b33024_6n b33024_7n b33024_8n b33024_9n b33024_10n b33024_11n b33024_12n b33024_13n b33024_14n b33024_15n b33024_16n b33024_17n b33024_18n l1036864n =>
 letJ (α := Bs × Bool × Bool × Int × Int × List Bs × List Bs × (List (Bs × Bs)) × Int × Int × Int × List Yq3 × Bool × List Yq3 × List Yq3 × Bs × Bs × List Yq5 × List Yq5 × (List (Bs × Bool × Bs)) × List (Bs × Bool × Bs)) (fun j15 =>
 bif decide (b33024_8n ≥ (0 : Int)) then (callO (ref14_number N 129 b33024_8n) fun r157 =>
 chk (decide (t16n.length + r157.length ≤ 140737488355328)) <|
 j15 (t16n ++ r157, b33024_0n, b33024_1n, b33024_2n, b33024_3n, b33024_4n, b33024_5n, b33024_6n, b33024_7n, b33024_8n, b33024_9n, b33024_10n, b33024_11n, b33024_12n, b33024_13n, b33024_14n, b33024_15n, b33024_16n, b33024_17n, b33024_18n, l1036864n))
 else (j15 (t16n, b33024_0n, b33024_1n, b33024_2n, b33024_3n, b33024_4n, b33024_5n, b33024_6n, b33024_7n, b33024_8n, b33024_9n, b33024_10n, b33024_11n, b33024_12n, b33024_13n, b33024_14n, b33024_15n, b33024_16n, b33024_17n, b33024_18n, l1036864n)))
 (U21 fun t16o b33024_0o b33024_1o b33024_2o b33024_3o b33024_4o b33024_5o b33024_6o b33024_7o b33024_8o b33024_9o b33024_10o b33024_11o b33024_12o b33024_13o b33024_14o b33024_15o b33024_16o b33024_17o b33024_18o l1036864o =>
 callO (ref07_Wrap N 48 ([t16o] : List Bs)) fun r162 =>
 chk (decide ((l1036864o.length + 1) * 41 ≤ 140737488355328)) <|
 let y75008 : List (Bs × Bool × Bs) := l1036864o ++ ([(([50, 46, 53, 46, 50, 57, 46, 51, 54] : Bs), true, r162)] : List (Bs × Bool × Bs))
 j13 (b33024_0o, b33024_1o, b33024_2o, b33024_3o, b33024_4o, b33024_5o, b33024_6o, b33024_7o, b33024_8o, b33024_9o, b33024_10o, b33024_11o, b33024_12o, b33024_13o, b33024_14o, b33024_15o, b33024_16o, b33024_17o, b33024_18o, y75008))))
 else (j13 (b33024_0j, b33024_1j, b33024_2j, b33024_3j, b33024_4j, b33024_5j, b33024_6j, b33024_7j, b33024_8j, b33024_9j, b33024_10j, b33024_11j, b33024_12j, b33024_13j, b33024_14j, b33024_15j, b33024_16j, b33024_17j, b33024_18j, l1036864j)))
 (U20 fun b33024_0m b33024_1m b33024_2m b33024_3m b33024_4m b33024_5m b33024_6m b33024_7m b33024_8m b33024_9m b33024_10m b33024_11m b33024_12m b33024_13m b33024_14m b33024_15m b33024_16m b33024_17m b33024_18m l1049152m =>
 letJ (α := Bool × Bool × Int × Int × List Bs × List Bs × (List (Bs × Bs)) × Int × Int × Int × List Yq3 × Bool × List Yq3 × List Yq3 × Bs × Bs × List Yq5 × List Yq5 × (List (Bs × Bool × Bs)) × List (Bs × Bool × Bs)) (fun j16 =>
 bif decide (b33024_9m ≥ (0 : Int)) then (callO (ref14_number N 2 b33024_9m) fun r172 =>
 chk (decide ((l1049152m.length + 1) * 41 ≤ 140737488355328)) <|
 let y77568 : List (Bs × Bool × Bs) := l1049152m ++ ([(([50, 46, 53, 46, 50, 57, 46, 53, 52] : Bs), true, r172)] : List (Bs × Bool × Bs))
 j16 (b33024_0m, b33024_1m, b33024_2m, b33024_3m, b33024_4m, b33024_5m, b33024_6m, b33024_7m, b33024_8m, b33024_9m, b33024_10m, b33024_11m, b33024_12m, b33024_13m, b33024_14m, b33024_15m, b33024_16m, b33024_17m, b33024_18m, y77568))
 else (j16 (b33024_0m, b33024_1m, b33024_2m, b33024_3m, b33024_4m, b33024_5m, b33024_6m, b33024_7m, b33024_8m, b33024_9m, b33024_10m, b33024_11m, b33024_12m, b33024_13m, b33024_14m, b33024_15m, b33024_16m, b33024_17m, b33024_18m, l1049152m)))
 (U20 fun b33024_0p b33024_1p b33024_2p b33024_3p b33024_4p b33024_5p b33024_6p b33024_7p b33024_8p b33024_9p b33024_10p b33024_11p b33024_12p b33024_13p b33024_14p b33024_15p b33024_16p b33024_17p b33024_18p l1061440p =>
 letJ (α := Bool × Bool × Int × Int × List Bs × List Bs × (List (Bs × Bs)) × Int × Int × Int × List Yq3 × Bool × List Yq3 × List Yq3 × Bs × Bs × List Yq5 × List Yq5 × (List (Bs × Bool × Bs)) × List (Bs × Bool × Bs)) (fun j17 =>
 bif decide ((b33024_10p.length : Int) > (0 : Int)) then (callO (ref07_EncodeList N b33024_10p) fun r183 =>
 callO (ref07_Wrap N 48 ([r183.1] : List Bs)) fun r189 =>
 chk (decide ((l1061440p.length + 1) * 41 ≤ 140737488355328)) <|
 let y81920 : List (Bs × Bool × Bs) := l1061440p ++ ([(([50, 46, 53, 46, 50, 57, 46, 49, 55] : Bs), false, r189)] : List (Bs × Bool × Bs))
 j17 (b33024_0p, b33024_1p, b33024_2p, b33024_3p, b33024_4p, b33024_5p, b33024_6p, b33024_7p, b33024_8p, b33024_9p, b33024_10p, b33024_11p, b33024_12p, b33024_13p, b33024_14p, b33024_15p, b33024_16p, b33024_17p, b33024_18p, y81920))
 else (j17 (b33024_0p, b33024_1p, b33024_2p, b33024_3p, b33024_4p, b33024_5p, b33024_6p, b33024_7p, b33024_8p, b33024_9p, b33024_10p, b33024_11p, b33024_12p, b33024_13p, b33024_14p, b33024_15p, b33024_16p, b33024_17p, b33024_18p, l1061440p)))
 (U20 fun b33024_0q b33024_1q b33024_2q b33024_3q b33024_4q b33024_5q b33024_6q b33024_7q b33024_8q b33024_9q b33024_10q b33024_11q b33024_12q b33024_13q b33024_14q b33024_15q b33024_16q b33024_17q b33024_18q l1065536q =>
 letJ (α := Bool × Bool × Int × Int × List Bs × List Bs × (List (Bs × Bs)) × Int × Int × Int × List Yq3 × Bool × List Yq3 × List Yq3 × Bs × Bs × List Yq5 × List Yq5 × (List (Bs × Bool × Bs)) × List (Bs × Bool × Bs)) (fun j18 =>
 bif b33024_11q then (callO (ref07_EncodeSubtrees N (b33024_12q, b33024_13q)) fun r198 =>
 bif (r198.2 != (0 : Int)) then (some (([] : List (Bs × Bool × Bs)), r198.2))
 else (chk (decide ((l1065536q.length + 1) * 41 ≤ 140737488355328)) <|
 let y86016 : List (Bs × Bool × Bs) := l1065536q ++ ([(([50, 46, 53, 46, 50, 57, 46, 51, 48] : Bs), true, r198.1)] : List (Bs × Bool × Bs))
 j18 (b33024_0q, b33024_1q, b33024_2q, b33024_3q, b33024_4q, b33024_5q, b33024_6q, b33024_7q, b33024_8q, b33024_9q, b33024_10q, b33024_11q, b33024_12q, b33024_13q, b33024_14q, b33024_15q, b33024_16q, b33024_17q, b33024_18q, y86016)))
 else (j18 (b33024_0q, b33024_1q, b33024_2q, b33024_3q, b33024_4q, b33024_5q, b33024_6q, b33024_7q, b33024_8q, b33024_9q, b33024_10q, b33024_11q, b33024_12q, b33024_13q, b33024_14q, b33024_15q, b33024_16q, b33024_17q, b33024_18q, l1065536q)))
 (U20 fun b33024_0r b33024_1r b33024_2r b33024_3r b33024_4r b33024_5r b33024_6r b33024_7r b33024_8r b33024_9r b33024_10r b33024_11r b33024_12r b33024_13r b33024_14r b33024_15r b33024_16r b33024_17r b33024_18r l1069632r =>
 letJ (α := Bool × Bool × Int × Int × List Bs × List Bs × (List (Bs × Bs)) × Int × Int × Int × List Yq3 × Bool × List Yq3 × List Yq3 × Bs × Bs × List Yq5 × List Yq5 × (List (Bs × Bool × Bs)) × List (Bs × Bool × Bs)) (fun j19 =>
 bif !(b33024_14r == ([] : Bs)) then (callO (ref07_Wrap N 4 ([b33024_14r] : List Bs)) fun r216 =>
 chk (decide ((l1069632r.length + 1) * 41 ≤ 140737488355328)) <|
 let y88832 : List (Bs × Bool × Bs) := l1069632r ++ ([(([50, 46, 53, 46, 50, 57, 46, 49, 52] : Bs), false, r216)] : List (Bs × Bool × Bs))
 j19 (b33024_0r, b33024_1r, b33024_2r, b33024_3r, b33024_4r, b33024_5r, b33024_6r, b33024_7r, b33024_8r, b33024_9r, b33024_10r, b33024_11r, b33024_12r, b33024_13r, b33024_14r, b33024_15r, b33024_16r, b33024_17r, b33024_18r, y88832))
 else (j19 (b33024_0r, b33024_1r, b33024_2r, b33024_3r, b33024_4r, b33024_5r, b33024_6r, b33024_7r, b33024_8r, b33024_9r, b33024_10r, b33024_11r, b33024_12r, b33024_13r, b33024_14r, b33024_15r, b33024_16r, b33024_17r, b33024_18r, l1069632r)))
 (U20 fun b33024_0s b33024_1s b33024_2s b33024_3s b33024_4s b33024_5s b33024_6s b33024_7s b33024_8s b33024_9s b33024_10s b33024_11s b33024_12s b33024_13s b33024_14s b33024_15s b33024_16s b33024_17s b33024_18s l1073728s =>
 letJ (α := Bool × Bool × Int × Int × List Bs × List Bs × (List (Bs × Bs)) × Int × Int × Int × List Yq3 × Bool × List Yq3 × List Yq3 × Bs × Bs × List Yq5 × List Yq5 × (List (Bs × Bool × Bs)) × List (Bs × Bool × Bs)) (fun j20 =>
 bif !(b33024_15s == ([] : Bs)) then (callO (ref07_Wrap N 128 ([b33024_15s] : List Bs)) fun r227 =>
 callO (ref07_Wrap N 48 ([r227] : List Bs)) fun r229 =>
 chk (decide ((l1073728s.length + 1) * 41 ≤ 140737488355328)) <|
 let y92160 : List (Bs × Bool × Bs) := l1073728s ++ ([(([50, 46, 53, 46, 50, 57, 46, 51, 53] : Bs), false, r229)] : List (Bs × Bool × Bs))
 j20 (b33024_0s, b33024_1s, b33024_2s, b33024_3s, b33024_4s, b33024_5s, b33024_6s, b33024_7s, b33024_8s, b33024_9s, b33024_10s, b33024_11s, b33024_12s, b33024_13s, b33024_14s, b33024_15s, b33024_16s, b33024_17s, b33024_18s, y92160))
 else (j20 (b33024_0s, b33024_1s, b33024_2s, b33024_3s, b33024_4s, b33024_5s, b33024_6s, b33024_7s, b33024_8s, b33024_9s, b33024_10s, b33024_11s, b33024_12s, b33024_13s, b33024_14s, b33024_15s, b33024_16s, b33024_17s, b33024_18s, l1073728s)))
 (U20 fun b33024_0t b33024_1t b33024_2t b33024_3t b33024_4t b33024_5t b33024_6t b33024_7t b33024_8t b33024_9t b33024_10t b33024_11t b33024_12t b33024_13t b33024_14t b33024_15t b33024_16t b33024_17t b33024_18t l1077824t =>
 iterG (X := Int × Bool × Bool × Int × Int × List Bs × List Bs × (List (Bs × Bs)) × Int × Int × Int × List Yq3 × Bool × List Yq3 × List Yq3 × Bs × Bs × List Yq5 × List Yq5 × (List (Bs × Bool × Bs)) × List (List Yq5) × List (Bs × Bool × Bs)) (Y := (Bool × Bool × Int × Int × List Bs × List Bs × (List (Bs × Bs)) × Int × Int × Int × List Yq3 × Bool × List Yq3 × List Yq3 × Bs × Bs × List Yq5 × List Yq5 × (List (Bs × Bool × Bs)) × List (Bs × Bool × Bs))) (U22 fun t239u b33024_0u b33024_1u b33024_2u b33024_3u b33024_4u b33024_5u b33024_6u b33024_7u b33024_8u b33024_9u b33024_10u b33024_11u b33024_12u b33024_13u b33024_14u b33024_15u b33024_16u b33024_17u b33024_18u l93440u l1077824u k21 x22 =>
 bif decide (t239u < (2 : Int)) then (chk (decide ((0 : Int) ≤ t239u)) <|
 chk (decide (t239u < (l93440u.length : Int))) <|
 chk (decide (t239u.toNat < l93440u.length)) <|
 let x246 : Bool := (((l93440u.getD t239u.toNat ([] : List Yq5)).length : Int) == (0 : Int))
 bif x246 then (k21 (IntKind.i64.wrap (t239u + (1 : Int)), b33024_0u, b33024_1u, b33024_2u, b33024_3u, b33024_4u, b33024_5u, b33024_6u, b33024_7u, b33024_8u, b33024_9u, b33024_10u, b33024_11u, b33024_12u, b33024_13u, b33024_14u, b33024_15u, b33024_16u, b33024_17u, b33024_18u, l93440u, l1077824u))
 else (callO (ref14_EncodePoints N (l93440u.getD t239u.toNat ([] : List Yq5))) fun r249 =>
 bif (r249.2 != (0 : Int)) then (some (([] : List (Bs × Bool × Bs)), r249.2))
 else (chk (decide ((0 : Int) ≤ t239u)) <|
 chk (decide (t239u < (2 : Int))) <|
 chk (decide (t239u.toNat < 2)) <|
 let x259 : Bs := (([([50, 46, 53, 46, 50, 57, 46, 51, 49] : Bs), ([50, 46, 53, 46, 50, 57, 46, 52, 54] : Bs)] : List Bs).getD t239u.toNat ([] : Bs))
 chk (decide ((l1077824u.length + 1) * 41 ≤ 140737488355328)) <|
 k21 (IntKind.i64.wrap (t239u + (1 : Int)), b33024_0u, b33024_1u, b33024_2u, b33024_3u, b33024_4u, b33024_5u, b33024_6u, b33024_7u, b33024_8u, b33024_9u, b33024_10u, b33024_11u, b33024_12u, b33024_13u, b33024_14u, b33024_15u, b33024_16u, b33024_17u, b33024_18u, l93440u, l1077824u ++ ([(x259, false, r249.1)] : List (Bs × Bool × Bs))))))
 else (x22 (b33024_0u, b33024_1u, b33024_2u, b33024_3u, b33024_4u, b33024_5u, b33024_6u, b33024_7u, b33024_8u, b33024_9u, b33024_10u, b33024_11u, b33024_12u, b33024_13u, b33024_14u, b33024_15u, b33024_16u, b33024_17u, b33024_18u, l1077824u)))
 N (0, b33024_0t, b33024_1t, b33024_2t, b33024_3t, b33024_4t, b33024_5t, b33024_6t, b33024_7t, b33024_8t, b33024_9t, b33024_10t, b33024_11t, b33024_12t, b33024_13t, b33024_14t, b33024_15t, b33024_16t, b33024_17t, b33024_18t, ([b33024_16t, b33024_17t] : List (List Yq5)), l1077824t) (U20 fun b33024_0v b33024_1v b33024_2v b33024_3v b33024_4v b33024_5v b33024_6v b33024_7v b33024_8v b33024_9v b33024_10v b33024_11v b33024_12v b33024_13v b33024_14v b33024_15v b33024_16v b33024_17v b33024_18v l1077824v =>
 chk (decide ((l1077824v.length + b33024_18v.length) * 41 ≤ 140737488355328)) <|
 some (l1077824v ++ b33024_18v, 0))))))))))))))

-- certpath/certpathref14.extensions
abbrev ref14_extensions_O : Type := Bs × Int
def ref14_extensions (N : Nat) (p0 : Int) (p1 : Yq11) : Option ref14_extensions_O :=
 callO (ref14_EncodeInfo N p1) fun r10 =>
 chk (((!(r10.2 != (0 : Int))) || (!(!(r10.2 != (0 : Int)))))) <|
 chk (((!(r10.2 != (0 : Int))) || (!(!(r10.2 != (0 : Int)))))) <|
 chk (bif (r10.2 != (0 : Int)) then true else !(r10.2 != (0 : Int))) <|
 chk (bif (r10.2 != (0 : Int)) then true else true) <|
 let x19 : Bool := bif (r10.2 != (0 : Int)) then true else ((r10.1.length : Int) == (0 : Int))
 bif x19 then (some (([] : Bs), r10.2))
 else (callO (ref14_wrapped N p0 r10.1) fun r23 =>
 some (r23.1, r23.2))

-- certpath/certpathref14.EncodeCertTBS
abbrev ref14_EncodeCertTBS_O : Type := Bs × Int
def ref14_EncodeCertTBS (N : Nat) (p0 : Yq12) : Option ref14_EncodeCertTBS_O :=
 callO (ref14_CheckCert N p0) fun r18 =>
 bif (r18 != (0 : Int)) then (some (([] : Bs), r18))
 else (callO (ref07_EncodeName N p0.2.2.2.1) fun r25 =>
 callO (ref07_EncodeName N p0.2.2.2.2.1) fun r31 =>
 callO (ref01_EncodeTime N p0.2.2.2.2.2.1) fun r37 =>
 callO (ref01_EncodeTime N p0.2.2.2.2.2.2.1) fun r43 =>
 callO (ref14_EncodeKey N (p0.2.2.2.2.2.2.2.1, p0.2.2.2.2.2.2.2.2.1, p0.2.2.2.2.2.2.2.2.2.1)) fun r49 =>
 callO (ref14_extensions N 163 (p0.2.2.2.2.2.2.2.2.2.2.1, p0.2.2.2.2.2.2.2.2.2.2.2.1, p0.2.2.2.2.2.2.2.2.2.2.2.2.1, p0.2.2.2.2.2.2.2.2.2.2.2.2.2.1, p0.2.2.2.2.2.2.2.2.2.2.2.2.2.2.1, p0.2.2.2.2.2.2.2.2.2.2.2.2.2.2.2.1, p0.2.2.2.2.2.2.2.2.2.2.2.2.2.2.2.2.1, p0.2.2.2.2.2.2.2.2.2.2.2.2.2.2.2.2.2.1, p0.2.2.2.2.2.2.2.2.2.2.2.2.2.2.2.2.2.2.1, p0.2.2.2.2.2.2.2.2.2.2.2.2.2.2.2.2.2.2.2.1, p0.2.2.2.2.2.2.2.2.2.2.2.2.2.2.2.2.2.2.2.2.1, p0.2.2.2.2.2.2.2.2.2.2.2.2.2.2.2.2.2.2.2.2.2.1, p0.2.2.2.2.2.2.2.2.2.2.2.2.2.2.2.2.2.2.2.2.2.2.1, p0.2.2.2.2.2.2.2.2.2.2.2.2.2.2.2.2.2.2.2.2.2.2.2.1, p0.2.2.2.2.2.2.2.2.2.2.2.2.2.2.2.2.2.2.2.2.2.2.2.2.1, p0.2.2.2.2.2.2.2.2.2.2.2.2.2.2.2.2.2.2.2.2.2.2.2.2.2.1, p0.2.2.2.2.2.2.2.2.2.2.2.2.2.2.2.2.2.2.2.2.2.2.2.2.2.2.1, p0.2.2.2.2.2.2.2.2.2.2.2.2.2.2.2.2.2.2.2.2.2.2.2.2.2.2.2.1, p0.2.2.2.2.2.2.2.2.2.2.2.2.2.2.2.2.2.2.2.2.2.2.2.2.2.2.2.2.1)) fun r55 =>
 bif (r55.2 != (0 : Int)) then (some (([] : Bs), 2))
 else (callO (ref14_number N 2 2) fun r60 =>
 callO (ref07_Wrap N 160 ([r60] : List Bs)) fun r62 =>
 callO (ref14_number N 2 p0.2.2.1) fun r65 =>
 callO (ref14_Algorithm N) fun r66 =>
 callO (ref07_Wrap N 48 ([r37.1, r43.1] : List Bs)) fun r71 =>
 callO (ref07_Fit N 48 ([r62, r65, r66, r25.1, r71, r31.1, r49.1, r55.1] : List Bs)) fun r76 =>
 some (r76.1, r76.2)))

-- certpath/certpathmade.Sealed
abbrev made_Sealed_O : Type := Bs
def made_Sealed (N : Nat) (p0 : Yq12) : Option made_Sealed_O :=
 callO (ref14_EncodeCertTBS N p0) fun r9 =>
 callO (ref14_Seal N r9.1 ([110, 111, 32, 115, 105, 103, 110, 97, 116, 117, 114, 101] : Bs)) fun r14 =>
 some r14.1

-- certpath/certpathref01.round
abbrev ref01_round_O : Type := List Int
def ref01_round (N : Nat) (p0 : List Int) (p1 : Bs) : Option ref01_round_O :=
 iterG (X := Int × List Int × List Int) (Y := (List Int × List Int)) (U3 fun t7a l34304a l39424a k1 x2 =>
 bif decide (t7a < (16 : Int)) then (chk (decide ((0 : Int) ≤ IntKind.i64.wrap ((4 : Int) * t7a))) <|
 chk (decide (IntKind.i64.wrap ((4 : Int) * t7a) < (p1.length : Int))) <|
 let x36 : Int := IntKind.u32.wrap ((p1.getD ((IntKind.i64.wrap ((4 : Int) * t7a)).toNat) 0).toNat : Int)
 chk (decide ((0 : Int) ≤ IntKind.i64.wrap ((IntKind.i64.wrap ((4 : Int) * t7a)) + (1 : Int)))) <|
 chk (decide (IntKind.i64.wrap ((IntKind.i64.wrap ((4 : Int) * t7a)) + (1 : Int)) < (p1.length : Int))) <|
 let x42 : Int := ((p1.getD ((IntKind.i64.wrap ((IntKind.i64.wrap ((4 : Int) * t7a)) + (1 : Int))).toNat) 0).toNat : Int)
 let x45 : Int := bitsI .or .u32 (IntKind.u32.wrap (x36 * (16777216))) (IntKind.u32.wrap ((IntKind.u32.wrap x42) * (65536)))
 chk (decide ((0 : Int) ≤ IntKind.i64.wrap ((IntKind.i64.wrap ((4 : Int) * t7a)) + (2 : Int)))) <|
 chk (decide (IntKind.i64.wrap ((IntKind.i64.wrap ((4 : Int) * t7a)) + (2 : Int)) < (p1.length : Int))) <|
 let x50 : Int := ((p1.getD ((IntKind.i64.wrap ((IntKind.i64.wrap ((4 : Int) * t7a)) + (2 : Int))).toNat) 0).toNat : Int)
 chk (decide ((0 : Int) ≤ IntKind.i64.wrap ((IntKind.i64.wrap ((4 : Int) * t7a)) + (3 : Int)))) <|
 chk (decide (IntKind.i64.wrap ((IntKind.i64.wrap ((4 : Int) * t7a)) + (3 : Int)) < (p1.length : Int))) <|
 let x58 : Int := ((p1.getD ((IntKind.i64.wrap ((IntKind.i64.wrap ((4 : Int) * t7a)) + (3 : Int))).toNat) 0).toNat : Int)
 let x60 : Int := bitsI .or .u32 (bitsI .or .u32 x45 (IntKind.u32.wrap ((IntKind.u32.wrap x50) * (256)))) (IntKind.u32.wrap x58)
 chk (decide ((0 : Int) ≤ t7a)) <|
 chk (decide (t7a < (64 : Int))) <|
 chk (decide (t7a.toNat < l34304a.length)) <|
 chk (decide (t7a.toNat < l34304a.length)) <|
 k1 (IntKind.i64.wrap (t7a + (1 : Int)), l34304a.set t7a.toNat x60, l39424a))
 else (x2 (l34304a, l39424a)))
 N (0, (List.replicate 64 0 : List Int), ([1116352408, 1899447441, 3049323471, 3921009573, 961987163, 1508970993, 2453635748, 2870763221, 3624381080, 310598401, 607225278, 1426881987, 1925078388, 2162078206, 2614888103, 3248222580, 3835390401, 4022224774, 264347078, 604807628, 770255983, 1249150122, 1555081692, 1996064986, 2554220882, 2821834349, 2952996808, 3210313671, 3336571891, 3584528711, 113926993, 338241895, 666307205, 773529912, 1294757372, 1396182291, 1695183700, 1986661051, 2177026350, 2456956037, 2730485921, 2820302411, 3259730800, 3345764771, 3516065817, 3600352804, 4094571909, 275423344, 430227734, 506948616, 659060556, 883997877, 958139571, 1322822218, 1537002063, 1747873779, 1955562222, 2024104815, 2227730452, 2361852424, 2428436474, 2756734187, 3204031479, 3329325298] : List Int)) (U2 fun l34304b l39424b =>
 iterG (X := Int × List Int × List Int) (Y := (List Int × List Int)) (U3 fun t8c l34304c l39424c k3 x4 =>
 bif decide (t8c < (64 : Int)) then (chk (decide ((0 : Int) ≤ IntKind.i64.wrap (t8c - (15 : Int)))) <|
 chk (decide (IntKind.i64.wrap (t8c - (15 : Int)) < (64 : Int))) <|
 chk (decide ((IntKind.i64.wrap (t8c - (15 : Int))).toNat < l34304c.length)) <|
 chk (decide ((IntKind.i64.wrap (t8c - (15 : Int))).toNat < l34304c.length)) <|
 chk (decide ((0 : Int) ≤ IntKind.i64.wrap (t8c - (2 : Int)))) <|
 chk (decide (IntKind.i64.wrap (t8c - (2 : Int)) < (64 : Int))) <|
 chk (decide ((IntKind.i64.wrap (t8c - (2 : Int))).toNat < l34304c.length)) <|
 chk (decide ((IntKind.i64.wrap (t8c - (2 : Int))).toNat < l34304c.length)) <|
 let x75 : Int := (l34304c.getD ((IntKind.i64.wrap (t8c - (15 : Int))).toNat) 0).fdiv (128)
 let x77 : Int := IntKind.u32.wrap ((l34304c.getD ((IntKind.i64.wrap (t8c - (15 : Int))).toNat) 0) * (33554432))
 let x80 : Int := (l34304c.getD ((IntKind.i64.wrap (t8c - (15 : Int))).toNat) 0).fdiv (262144)
 let x82 : Int := IntKind.u32.wrap ((l34304c.getD ((IntKind.i64.wrap (t8c - (15 : Int))).toNat) 0) * (16384))
 let x86 : Int := (l34304c.getD ((IntKind.i64.wrap (t8c - (15 : Int))).toNat) 0).fdiv (8)
 let x87 : Int := bitsI .xor .u32 (bitsI .xor .u32 (bitsI .or .u32 x75 x77) (bitsI .or .u32 x80 x82)) x86
 let x89 : Int := (l34304c.getD ((IntKind.i64.wrap (t8c - (2 : Int))).toNat) 0).fdiv (131072)
 let x91 : Int := IntKind.u32.wrap ((l34304c.getD ((IntKind.i64.wrap (t8c - (2 : Int))).toNat) 0) * (32768))
 let x94 : Int := (l34304c.getD ((IntKind.i64.wrap (t8c - (2 : Int))).toNat) 0).fdiv (524288)
 let x96 : Int := IntKind.u32.wrap ((l34304c.getD ((IntKind.i64.wrap (t8c - (2 : Int))).toNat) 0) * (8192))
 let x100 : Int := (l34304c.getD ((IntKind.i64.wrap (t8c - (2 : Int))).toNat) 0).fdiv (1024)
 let x101 : Int := bitsI .xor .u32 (bitsI .xor .u32 (bitsI .or .u32 x89 x91) (bitsI .or .u32 x94 x96)) x100
 chk (decide ((0 : Int) ≤ IntKind.i64.wrap (t8c - (16 : Int)))) <|
 chk (decide (IntKind.i64.wrap (t8c - (16 : Int)) < (64 : Int))) <|
 chk (decide ((IntKind.i64.wrap (t8c - (16 : Int))).toNat < l34304c.length)) <|
 chk (decide ((IntKind.i64.wrap (t8c - (16 : Int))).toNat < l34304c.length)) <|
 let x108 : Int := IntKind.u32.wrap ((l34304c.getD ((IntKind.i64.wrap (t8c - (16 : Int))).toNat) 0) + x87)
 chk (decide ((0 : Int) ≤ IntKind.i64.wrap (t8c - (7 : Int)))) <|
 chk (decide (IntKind.i64.wrap (t8c - (7 : Int)) < (64 : Int))) <|
 chk (decide ((IntKind.i64.wrap (t8c - (7 : Int))).toNat < l34304c.length)) <|
 chk (decide ((IntKind.i64.wrap (t8c - (7 : Int))).toNat < l34304c.length)) <|
 let x113 : Int := IntKind.u32.wrap (x108 + (l34304c.getD ((IntKind.i64.wrap (t8c - (7 : Int))).toNat) 0))
 chk (decide ((0 : Int) ≤ t8c)) <|
 chk (decide (t8c < (64 : Int))) <|
 chk (decide (t8c.toNat < l34304c.length)) <|
 chk (decide (t8c.toNat < l34304c.length)) <|
 k3 (IntKind.i64.wrap (t8c + (1 : Int)), l34304c.set t8c.toNat (IntKind.u32.wrap (x113 + x101)), l39424c))
 else (x4 (l34304c, l39424c)))
 N (16, l34304b, l39424b) (U2 fun l34304d l39424d =>
 chk (decide ((0 : Int) < (p0.length : Int))) <|
 chk (decide ((1 : Int) < (p0.length : Int))) <|
 chk (decide ((2 : Int) < (p0.length : Int))) <|
 chk (decide ((3 : Int) < (p0.length : Int))) <|
 chk (decide ((4 : Int) < (p0.length : Int))) <|
 chk (decide ((5 : Int) < (p0.length : Int))) <|
 chk (decide ((6 : Int) < (p0.length : Int))) <|
 chk (decide ((7 : Int) < (p0.length : Int))) <|
 iterG (X := Int × Int × Int × Int × Int × Int × Int × Int × Int × List Int × List Int) (Y := (Int × Int × Int × Int × Int × Int × Int × Int)) (U11 fun t13e t14e t15e t16e t17e t18e t19e t20e t21e l34304e l39424e k5 x6 =>
 bif decide (t21e < (64 : Int)) then (let x154 : Int := bitsI .or .u32 (t17e.fdiv (2048)) (IntKind.u32.wrap (t17e * (2097152)))
 let x155 : Int := bitsI .xor .u32 (bitsI .or .u32 (t17e.fdiv (64)) (IntKind.u32.wrap (t17e * (67108864)))) x154
 let x160 : Int := bitsI .or .u32 (t17e.fdiv (33554432)) (IntKind.u32.wrap (t17e * (128)))
 let x172 : Int := bitsI .xor .u32 (bitsI .and .u32 t17e t18e) (bitsI .and .u32 (bitsI .xor .u32 4294967295 t17e) t19e)
 let x173 : Int := IntKind.u32.wrap ((IntKind.u32.wrap (t20e + (bitsI .xor .u32 x155 x160))) + x172)
 chk (decide ((0 : Int) ≤ t21e)) <|
 chk (decide (t21e < (l39424e.length : Int))) <|
 chk (decide (t21e.toNat < l39424e.length)) <|
 chk (decide ((0 : Int) ≤ t21e)) <|
 chk (decide (t21e < (64 : Int))) <|
 chk (decide (t21e.toNat < l34304e.length)) <|
 chk (decide (t21e.toNat < l34304e.length)) <|
 let x182 : Int := IntKind.u32.wrap ((IntKind.u32.wrap (x173 + (l39424e.getD t21e.toNat 0))) + (l34304e.getD t21e.toNat 0))
 let x187 : Int := bitsI .or .u32 (t13e.fdiv (4)) (IntKind.u32.wrap (t13e * (1073741824)))
 let x193 : Int := bitsI .xor .u32 x187 (bitsI .or .u32 (t13e.fdiv (8192)) (IntKind.u32.wrap (t13e * (524288))))
 let x198 : Int := bitsI .or .u32 (t13e.fdiv (4194304)) (IntKind.u32.wrap (t13e * (1024)))
 let x207 : Int := bitsI .xor .u32 (bitsI .and .u32 t13e t14e) (bitsI .and .u32 t13e t15e)
 let x212 : Int := IntKind.u32.wrap ((bitsI .xor .u32 x193 x198) + (bitsI .xor .u32 x207 (bitsI .and .u32 t14e t15e)))
 k5 (IntKind.u32.wrap (x182 + x212), t13e, t14e, t15e, IntKind.u32.wrap (t16e + x182), t17e, t18e, t19e, IntKind.i64.wrap (t21e + (1 : Int)), l34304e, l39424e))
 else (x6 (t13e, t14e, t15e, t16e, t17e, t18e, t19e, t20e)))
 N ((p0.getD 0 0), (p0.getD 1 0), (p0.getD 2 0), (p0.getD 3 0), (p0.getD 4 0), (p0.getD 5 0), (p0.getD 6 0), (p0.getD 7 0), 0, l34304d, l39424d) (U8 fun t13f t14f t15f t16f t17f t18f t19f t20f =>
 chk (decide ((0 : Int) < (p0.length : Int))) <|
 chk (decide ((1 : Int) < (p0.length : Int))) <|
 chk (decide ((2 : Int) < (p0.length : Int))) <|
 chk (decide ((3 : Int) < (p0.length : Int))) <|
 chk (decide ((4 : Int) < (p0.length : Int))) <|
 chk (decide ((5 : Int) < (p0.length : Int))) <|
 chk (decide ((6 : Int) < (p0.length : Int))) <|
 chk (decide ((7 : Int) < (p0.length : Int))) <|
 some ([IntKind.u32.wrap ((p0.getD 0 0) + t13f), IntKind.u32.wrap ((p0.getD 1 0) + t14f), IntKind.u32.wrap ((p0.getD 2 0) + t15f), IntKind.u32.wrap ((p0.getD 3 0) + t16f), IntKind.u32.wrap ((p0.getD 4 0) + t17f), IntKind.u32.wrap ((p0.getD 5 0) + t18f), IntKind.u32.wrap ((p0.getD 6 0) + t19f), IntKind.u32.wrap ((p0.getD 7 0) + t20f)] : List Int))))

-- certpath/certpathref01.Sum
abbrev ref01_Sum_O : Type := Bs
def ref01_Sum (N : Nat) (p0 : List Bs) : Option ref01_Sum_O :=
 iterG (X := Bs × Int) (Y := Bs) (U2 fun t3a t17a k1 x2 =>
 bif decide (t17a < (p0.length : Int)) then (chk (decide ((0 : Int) ≤ t17a)) <|
 chk (decide (t17a < (p0.length : Int))) <|
 chk (decide (t3a.length + (p0.getD t17a.toNat ([] : Bs)).length ≤ 140737488355328)) <|
 k1 (t3a ++ (p0.getD t17a.toNat ([] : Bs)), IntKind.i64.wrap (t17a + (1 : Int))))
 else (x2 t3a))
 N (([] : Bs), 0) (fun t3b =>
 let x31 : Int := IntKind.i64.wrap ((64 : Int) - ((IntKind.i64.wrap ((t3b.length : Int) + (9 : Int))).tmod 64))
 letJ (α := Int × List Int) (fun j3 =>
 bif (x31 == (64 : Int)) then (j3 (0, ([1779033703, 3144134277, 1013904242, 2773480762, 1359893119, 2600822924, 528734635, 1541459225] : List Int)))
 else (j3 (x31, ([1779033703, 3144134277, 1013904242, 2773480762, 1359893119, 2600822924, 528734635, 1541459225] : List Int))))
 (U2 fun t8c l39168c =>
 chk (decide (IntKind.i64.wrap ((9 : Int) + t8c) ≤ IntKind.i64.wrap ((9 : Int) + t8c))) <|
 chk (decide ((0 : Int) ≤ IntKind.i64.wrap ((9 : Int) + t8c))) <|
 chk (decide ((IntKind.i64.wrap ((9 : Int) + t8c)) * 2 ≤ 140737488355328)) <|
 let y41984 : List Int := (List.replicate (IntKind.i64.wrap ((9 : Int) + t8c)).toNat 0 : List Int)
 chk (decide ((0 : Int) < (y41984.length : Int))) <|
 chk (decide (0 < y41984.length)) <|
 iterG (X := Int × List Int × List Int) (Y := (List Int × List Int)) (U3 fun t10d l39168d l41984d k4 x5 =>
 bif decide (t10d < (8 : Int)) then (let x48 : Int := IntKind.i64.wrap ((IntKind.i64.wrap ((l41984d.length : Int) - (1 : Int))) - t10d)
 chk (decide ((0 : Int) ≤ IntKind.i64.wrap ((8 : Int) * t10d))) <|
 let x53 : Int := (IntKind.i64.wrap ((8 : Int) * (t3b.length : Int))).fdiv (2 ^ (min (IntKind.i64.wrap ((8 : Int) * t10d)).toNat 64))
 chk (decide ((0 : Int) ≤ x48)) <|
 chk (decide (x48 < (l41984d.length : Int))) <|
 chk (decide (x48.toNat < l41984d.length)) <|
 k4 (IntKind.i64.wrap (t10d + (1 : Int)), l39168d, l41984d.set x48.toNat (IntKind.u8.wrap x53)))
 else (x5 (l39168d, l41984d)))
 N (0, l39168c, y41984.set 0 128) (U2 fun l39168e l41984e =>
 chk (List.all l41984e isByte) <|
 chk (decide (t3b.length + (List.map byteOf l41984e).length ≤ 140737488355328)) <|
 iterG (X := List Int × Int) (Y := (List Int)) (U2 fun t6f t11f k6 x7 =>
 bif decide (t11f < ((t3b ++ (List.map byteOf l41984e)).length : Int)) then (chk (decide ((0 : Int) ≤ t11f)) <|
 chk (decide (t11f ≤ IntKind.i64.wrap (t11f + (64 : Int)))) <|
 chk (decide (IntKind.i64.wrap (t11f + (64 : Int)) ≤ ((t3b ++ (List.map byteOf l41984e)).length : Int))) <|
 let x71 : Bs := cutL (t3b ++ (List.map byteOf l41984e)) t11f.toNat ((IntKind.i64.wrap (t11f + (64 : Int))).toNat)
 callO (ref01_round N t6f x71) fun r72 =>
 k6 (r72, IntKind.i64.wrap (t11f + (64 : Int))))
 else (x7 t6f))
 N (l39168e, 0) (fun t6g =>
 iterG (X := Int × List Int) (Y := (List Int)) (U2 fun t76h l1028672h k8 x9 =>
 bif decide (t76h < (t6g.length : Int)) then (chk (decide ((0 : Int) ≤ t76h)) <|
 chk (decide (t76h < (t6g.length : Int))) <|
 chk (decide ((l1028672h.length + 4) * 2 ≤ 140737488355328)) <|
 let y56576 : List Int := l1028672h ++ ([IntKind.u8.wrap ((t6g.getD t76h.toNat 0).fdiv (16777216)), IntKind.u8.wrap ((t6g.getD t76h.toNat 0).fdiv (65536)), IntKind.u8.wrap ((t6g.getD t76h.toNat 0).fdiv (256)), IntKind.u8.wrap (t6g.getD t76h.toNat 0)] : List Int)
 k8 (IntKind.i64.wrap (t76h + (1 : Int)), y56576))
 else (x9 l1028672h))
 N (0, ([] : List Int)) (fun l1032768i =>
 chk (List.all l1032768i isByte) <|
 some (List.map byteOf l1032768i))))))

-- certpath/certpathref11.B4
abbrev ref11_B4_O : Type := Bs
def ref11_B4 (N : Nat) (p0 : Int) : Option ref11_B4_O :=
 chk (List.all ([IntKind.u8.wrap (p0.fdiv (16777216)), IntKind.u8.wrap (p0.fdiv (65536)), IntKind.u8.wrap (p0.fdiv (256)), IntKind.u8.wrap p0] : List Int) isByte) <|
 let x15 : Bs := List.map byteOf ([IntKind.u8.wrap (p0.fdiv (16777216)), IntKind.u8.wrap (p0.fdiv (65536)), IntKind.u8.wrap (p0.fdiv (256)), IntKind.u8.wrap p0] : List Int)
 some x15

-- certpath/certpathmade.Seed
abbrev made_Seed_O : Type := Bs
def made_Seed (N : Nat) (p0 : Int) : Option made_Seed_O :=
 callO (ref11_B4 N p0) fun r4 =>
 callO (ref01_Sum N ([([115, 101, 101, 100] : Bs), r4] : List Bs)) fun r6 =>
 some r6

-- certpath/certpathmade.Key
abbrev made_Key_O : Type := (Int × Bs × Bs) × List Int × Int
def made_Key (N : Nat) (p0 : List Int × Int) : Option made_Key_O :=
 callO (made_Deck_Next N p0 50) fun r5 =>
 callO (made_Seed N r5.1) fun r6 =>
 callO (made_Deck_Next N r5.2 9) fun r8 =>
 chk (decide ((16 : Int) ≤ (r6.length : Int))) <|
 chk (decide ((16 : Int) ≤ (r6.length : Int))) <|
 some ((r8.1, cutL r6 0 16, cutL r6 16 r6.length), r8.2)

-- certpath/certpathref14.None
abbrev ref14_None_O : Type := Yq11
def ref14_None (N : Nat)  : Option ref14_None_O :=
 some (false, false, (-1), 0, ([] : List Bs), ([] : List Bs), ([] : List (Bs × Bs)), (-1), (-1), (-1), ([] : List Yq3), false, ([] : List Yq3), ([] : List Yq3), ([] : Bs), ([] : Bs), ([] : List Yq5), ([] : List Yq5), ([] : List (Bs × Bool × Bs)))

-- certpath/certpathmade.Policy
abbrev made_Policy_O : Type := Bs
def made_Policy (N : Nat) (p0 : Int) : Option made_Policy_O :=
 chk (decide ((0 : Int) ≤ p0.tmod 9)) <|
 chk (decide (p0.tmod 9 < (9 : Int))) <|
 chk (decide ((p0.tmod 9).toNat < 9)) <|
 let x7 : Bs := (([([49, 46, 50, 46, 51, 46, 49] : Bs), ([49, 46, 50, 46, 51, 46, 50] : Bs), ([49, 46, 50, 46, 51, 46, 51] : Bs), ([49, 46, 50, 46, 51, 46, 52] : Bs), ([49, 46, 50, 46, 51, 46, 53] : Bs), ([50, 46, 57, 57, 57, 46, 49] : Bs), ([50, 46, 57, 57, 57, 46, 50] : Bs), ([49, 46, 50, 46, 51] : Bs), ([50, 46, 53, 46, 50, 57, 46, 51, 50, 46, 48] : Bs)] : List Bs).getD ((p0.tmod 9).toNat) ([] : Bs))
 some x7

-- certpath/certpathmade.oids
abbrev made_oids_O : Type := List Bs × List Int × Int
def made_oids (N : Nat) (p0 : List Int × Int) (p1 : Bool) : Option made_oids_O :=
 callO (made_Deck_Next N p0 3) fun r12 =>
 iterG (X := Int × List Int × Int × List Bs) (Y := (List Int × Int × List Bs)) (U4 fun t6a b0_0a b0_1a l1000000a k1 x2 =>
 bif decide (t6a > (0 : Int)) then (callO (made_Deck_Next N (b0_0a, b0_1a) 9) fun r19 =>
 callO (made_Policy N r19.1) fun r20 =>
 letJ (α := Bs × List Int × Int × List Bs) (fun j3 =>
 bif p1 then (callO (made_Deck_Next N r19.2 5) fun r24 =>
 chk (decide ((0 : Int) ≤ r24.1)) <|
 chk (decide (r24.1 < (5 : Int))) <|
 chk (decide (r24.1.toNat < 5)) <|
 let x26 : Bs := (([([49, 46, 51, 46, 54, 46, 49, 46, 53, 46, 53, 46, 55, 46, 51, 46, 49] : Bs), ([49, 46, 51, 46, 54, 46, 49, 46, 53, 46, 53, 46, 55, 46, 51, 46, 50] : Bs), ([49, 46, 51, 46, 54, 46, 49, 46, 53, 46, 53, 46, 55, 46, 51, 46, 51] : Bs), ([49, 46, 51, 46, 54, 46, 49, 46, 53, 46, 53, 46, 55, 46, 51, 46, 52] : Bs), ([50, 46, 53, 46, 50, 57, 46, 51, 55, 46, 48] : Bs)] : List Bs).getD r24.1.toNat ([] : Bs))
 j3 (x26, r24.2.1, r24.2.2, l1000000a))
 else (j3 (r20, r19.2.1, r19.2.2, l1000000a)))
 (U4 fun t7b b0_0b b0_1b l1004096b =>
 iterG (X := Bool × Int × List Int × Int × List Bs) (Y := (Bool × List Int × Int × List Bs)) (U5 fun t8c t29c b0_0c b0_1c l1008192c k4 x5 =>
 bif decide (t29c < (l1004096b.length : Int)) then (chk (decide ((0 : Int) ≤ t29c)) <|
 chk (decide (t29c < (l1008192c.length : Int))) <|
 chk (decide (t29c.toNat < l1008192c.length)) <|
 chk (((!t8c) || (!(!t8c)))) <|
 chk (((!t8c) || (!(!t8c)))) <|
 chk (bif t8c then true else !t8c) <|
 chk (bif t8c then true else true) <|
 k4 (bif t8c then true else (t7b == (l1008192c.getD t29c.toNat ([] : Bs))), IntKind.i64.wrap (t29c + (1 : Int)), b0_0c, b0_1c, l1008192c))
 else (x5 (t8c, b0_0c, b0_1c, l1008192c)))
 N (false, 0, b0_0b, b0_1b, l1004096b) (U4 fun t8d b0_0d b0_1d l1012288d =>
 bif !t8d then (chk (decide ((l1012288d.length + 1) * 17 ≤ 140737488355328)) <|
 k1 (IntKind.i64.wrap (t6a - (1 : Int)), b0_0d, b0_1d, l1012288d ++ ([t7b] : List Bs)))
 else (k1 (IntKind.i64.wrap (t6a - (1 : Int)), b0_0d, b0_1d, l1012288d)))))
 else (x2 (b0_0a, b0_1a, l1000000a)))
 N (IntKind.i64.wrap ((1 : Int) + r12.1), r12.2.1, r12.2.2, ([] : List Bs)) (U3 fun b0_0e b0_1e l1016384e =>
 some (l1016384e, (b0_0e, b0_1e)))

-- certpath/certpathmade.mappings
abbrev made_mappings_O : Type := (List (Bs × Bs)) × List Int × Int
def made_mappings (N : Nat) (p0 : List Int × Int) : Option made_mappings_O :=
 callO (made_Deck_Next N p0 3) fun r10 =>
 iterG (X := Int × List Int × Int × List (Bs × Bs)) (Y := (List Int × Int × List (Bs × Bs))) (U4 fun t4a b0_0a b0_1a l1000000a k1 x2 =>
 bif decide (t4a > (0 : Int)) then (callO (made_Deck_Next N (b0_0a, b0_1a) 9) fun r17 =>
 callO (made_Policy N r17.1) fun r18 =>
 callO (made_Deck_Next N r17.2 9) fun r20 =>
 callO (made_Policy N r20.1) fun r21 =>
 iterG (X := Bool × Int × List Int × Int × Bs × Bs × List (Bs × Bs)) (Y := (Bool × List Int × Int × Bs × Bs × List (Bs × Bs))) (U7 fun t6b t25b b0_0b b0_1b b34048_0b b34048_1b l1004096b k3 x4 =>
 bif decide (t25b < (l1000000a.length : Int)) then (chk (decide ((0 : Int) ≤ t25b)) <|
 chk (decide (t25b < (l1004096b.length : Int))) <|
 chk (decide (t25b.toNat < l1004096b.length)) <|
 chk (((!t6b) || (!(!t6b)))) <|
 chk (((!t6b) || (!(!t6b)))) <|
 let x33 : Bool := ((b34048_0b == ((l1004096b.getD t25b.toNat (([] : Bs), ([] : Bs))).1)) && ((b34048_1b == ((l1004096b.getD t25b.toNat (([] : Bs), ([] : Bs))).2)) && true))
 chk (bif t6b then true else !t6b) <|
 chk (bif t6b then true else true) <|
 k3 (bif t6b then true else x33, IntKind.i64.wrap (t25b + (1 : Int)), b0_0b, b0_1b, b34048_0b, b34048_1b, l1004096b))
 else (x4 (t6b, b0_0b, b0_1b, b34048_0b, b34048_1b, l1004096b)))
 N (false, 0, r20.2.1, r20.2.2, r18, r21, l1000000a) (U6 fun t6c b0_0c b0_1c b34048_0c b34048_1c l1008192c =>
 bif !t6c then (chk (decide ((l1008192c.length + 1) * 33 ≤ 140737488355328)) <|
 k1 (IntKind.i64.wrap (t4a - (1 : Int)), b0_0c, b0_1c, l1008192c ++ ([(b34048_0c, b34048_1c)] : List (Bs × Bs))))
 else (k1 (IntKind.i64.wrap (t4a - (1 : Int)), b0_0c, b0_1c, l1008192c))))
 else (x2 (b0_0a, b0_1a, l1000000a)))
 N (IntKind.i64.wrap ((1 : Int) + r10.1), r10.2.1, r10.2.2, ([] : List (Bs × Bs))) (U3 fun b0_0d b0_1d l1012288d =>
 some (l1012288d, (b0_0d, b0_1d)))

-- certpath/certpathmade.Base
abbrev made_Base_O : Type := Yq3 × List Int × Int
def made_Base (N : Nat) (p0 : List Int × Int) : Option made_Base_O :=
 callO (made_Deck_Next N p0 4) fun r4 =>
 bif (r4.1 == (0 : Int)) then (callO (made_Deck_Next N r4.2 7) fun r9 =>
 chk (decide ((0 : Int) ≤ r9.1)) <|
 chk (decide (r9.1 < (7 : Int))) <|
 chk (decide (r9.1.toNat < 7)) <|
 let x11 : Bs := (([([97, 110, 110, 64, 101, 120, 97, 109, 112, 108, 101, 46, 111, 114, 103] : Bs), ([101, 120, 97, 109, 112, 108, 101, 46, 111, 114, 103] : Bs), ([46, 101, 120, 97, 109, 112, 108, 101, 46, 111, 114, 103] : Bs), ([69, 88, 65, 77, 80, 76, 69, 46, 111, 114, 103] : Bs), ([46, 111, 114, 103] : Bs), ([111, 114, 103] : Bs), ([109, 97, 105, 108, 46, 101, 120, 97, 109, 112, 108, 101, 46, 111, 114, 103] : Bs)] : List Bs).getD r9.1.toNat ([] : Bs))
 some ((1, x11, ([] : List Yq2)), r9.2))
 else (bif (r4.1 == (1 : Int)) then (callO (made_Deck_Next N r4.2 7) fun r17 =>
 chk (decide ((0 : Int) ≤ r17.1)) <|
 chk (decide (r17.1 < (7 : Int))) <|
 chk (decide (r17.1.toNat < 7)) <|
 let x19 : Bs := (([([101, 120, 97, 109, 112, 108, 101, 46, 111, 114, 103] : Bs), ([119, 119, 119, 46, 101, 120, 97, 109, 112, 108, 101, 46, 111, 114, 103] : Bs), ([] : Bs), ([69, 120, 97, 109, 112, 108, 101, 46, 79, 82, 71] : Bs), ([111, 114, 103] : Bs), ([98] : Bs), ([97, 46, 98] : Bs)] : List Bs).getD r17.1.toNat ([] : Bs))
 some ((2, x19, ([] : List Yq2)), r17.2))
 else (bif (r4.1 == (2 : Int)) then (callO (made_Deck_Next N r4.2 5) fun r25 =>
 chk (decide ((0 : Int) ≤ r25.1)) <|
 chk (decide (r25.1 < (5 : Int))) <|
 chk (decide (r25.1.toNat < 5)) <|
 let x27 : Bs := (([([10, 0, 0, 0, 255, 0, 0, 0] : Bs), ([10, 1, 0, 0, 255, 255, 0, 0] : Bs), ([0, 0, 0, 0, 0, 0, 0, 0] : Bs), ([10, 1, 2, 3, 255, 255, 255, 255] : Bs), ([32, 1, 0, 0, 0, 0, 0, 0, 0, 0, 0, 0, 0, 0, 0, 0, 255, 255, 0, 0, 0, 0, 0, 0, 0, 0, 0, 0, 0, 0, 0, 0] : Bs)] : List Bs).getD r25.1.toNat ([] : Bs))
 some ((7, x27, ([] : List Yq2)), r25.2))
 else (callO (made_Name N r4.2) fun r30 =>
 some ((4, ([] : Bs), r30.1), r30.2))))

-- certpath/certpathmade.Subtrees
abbrev made_Subtrees_O : Type := Yq10 × List Int × Int
def made_Subtrees (N : Nat) (p0 : List Int × Int) : Option made_Subtrees_O :=
 callO (made_Deck_Next N p0 4) fun r8 =>
 iterG (X := Int × List Int × Int × List Yq3) (Y := (List Int × Int × List Yq3)) (U4 fun t4a b0_0a b0_1a l1000000a k1 x2 =>
 bif decide (t4a > (0 : Int)) then (callO (made_Base N (b0_0a, b0_1a)) fun r16 =>
 chk (decide ((l1000000a.length + 1) * 49 ≤ 140737488355328)) <|
 k1 (IntKind.i64.wrap (t4a - (1 : Int)), r16.2.1, r16.2.2, l1000000a ++ ([r16.1] : List Yq3)))
 else (x2 (b0_0a, b0_1a, l1000000a)))
 N (r8.1, r8.2.1, r8.2.2, ([] : List Yq3)) (U3 fun b0_0b b0_1b l1004096b =>
 callO (made_Deck_Next N (b0_0b, b0_1b) 3) fun r21 =>
 iterG (X := Int × List Int × Int × List Yq3 × List Yq3) (Y := (List Int × Int × List Yq3 × List Yq3)) (U5 fun t5c b0_0c b0_1c l1004096c l1008192c k3 x4 =>
 bif decide (t5c > (0 : Int)) then (callO (made_Base N (b0_0c, b0_1c)) fun r29 =>
 chk (decide ((l1008192c.length + 1) * 49 ≤ 140737488355328)) <|
 k3 (IntKind.i64.wrap (t5c - (1 : Int)), r29.2.1, r29.2.2, l1004096c, l1008192c ++ ([r29.1] : List Yq3)))
 else (x4 (b0_0c, b0_1c, l1004096c, l1008192c)))
 N (r21.1, r21.2.1, r21.2.2, l1004096b, ([] : List Yq3)) (U4 fun b0_0d b0_1d l1004096d l1012288d =>
 chk ((((l1004096d.length : Int) == (0 : Int)) || (!((l1004096d.length : Int) == (0 : Int))))) <|
 chk ((((l1004096d.length : Int) == (0 : Int)) || (!((l1004096d.length : Int) == (0 : Int))))) <|
 chk ((((l1004096d.length : Int) == (0 : Int)) || (!((l1004096d.length : Int) == (0 : Int))))) <|
 chk (bif ((l1004096d.length : Int) == (0 : Int)) then ((l1004096d.length : Int) == (0 : Int)) else true) <|
 chk (bif ((l1004096d.length : Int) == (0 : Int)) then true else true) <|
 let x42 : Bool := bif ((l1004096d.length : Int) == (0 : Int)) then ((l1012288d.length : Int) == (0 : Int)) else false
 bif x42 then (callO (made_Base N (b0_0d, b0_1d)) fun r46 =>
 chk (decide ((l1012288d.length + 1) * 49 ≤ 140737488355328)) <|
 some ((l1004096d, l1012288d ++ ([r46.1] : List Yq3)), r46.2))
 else (some ((l1004096d, l1012288d), (b0_0d, b0_1d)))))

-- certpath/certpathmade.Info
abbrev made_Info_O : Type := Yq11 × List Int × Int
def made_Info (N : Nat) (p0 : List Int × Int) : Option made_Info_O :=
 callO (ref14_None N) fun r5 =>
 callO (made_Deck_Next N p0 6) fun r7 =>
 iterG (X := Int × List Int × Int × Bool × Bool × Int × Int × List Bs × List Bs × (List (Bs × Bs)) × Int × Int × Int × List Yq3 × Bool × List Yq3 × List Yq3 × Bs × Bs × List Yq5 × List Yq5 × List (Bs × Bool × Bs)) (Y := (List Int × Int × Bool × Bool × Int × Int × List Bs × List Bs × (List (Bs × Bs)) × Int × Int × Int × List Yq3 × Bool × List Yq3 × List Yq3 × Bs × Bs × List Yq5 × List Yq5 × List (Bs × Bool × Bs))) (U22 fun t4a b0_0a b0_1a b33536_0a b33536_1a b33536_2a b33536_3a b33536_4a b33536_5a b33536_6a b33536_7a b33536_8a b33536_9a b33536_10a b33536_11a b33536_12a b33536_13a b33536_14a b33536_15a b33536_16a b33536_17a b33536_18a k1 x2 =>
 bif decide (t4a > (0 : Int)) then (callO (made_Deck_Next N (b0_0a, b0_1a) 14) fun r13 =>
 letJ (α := Bool × List Int × Int × Bool × Bool × Int × Int × List Bs × List Bs × (List (Bs × Bs)) × Int × Int × Int × List Yq3 × Bool × List Yq3 × List Yq3 × Bs × Bs × List Yq5 × List Yq5 × List (Bs × Bool × Bs)) (fun j3 =>
 bif (r13.1 == (0 : Int)) then (j3 ((r13.1 == (0 : Int)), r13.2.1, r13.2.2, b33536_0a, b33536_1a, b33536_2a, b33536_3a, b33536_4a, b33536_5a, b33536_6a, b33536_7a, b33536_8a, b33536_9a, b33536_10a, b33536_11a, b33536_12a, b33536_13a, b33536_14a, b33536_15a, b33536_16a, b33536_17a, b33536_18a))
 else (j3 ((r13.1 == (1 : Int)), r13.2.1, r13.2.2, b33536_0a, b33536_1a, b33536_2a, b33536_3a, b33536_4a, b33536_5a, b33536_6a, b33536_7a, b33536_8a, b33536_9a, b33536_10a, b33536_11a, b33536_12a, b33536_13a, b33536_14a, b33536_15a, b33536_16a, b33536_17a, b33536_18a)))
 (U22 fun t27b b0_0b b0_1b b33536_0b b33536_1b b33536_2b b33536_3b b33536_4b b33536_5b b33536_6b b33536_7b b33536_8b b33536_9b b33536_10b b33536_11b b33536_12b b33536_13b b33536_14b b33536_15b b33536_16b b33536_17b b33536_18b =>
 bif t27b then (callO (made_Deck_Next N (b0_0b, b0_1b) 5) fun r31 =>
 k1 (IntKind.i64.wrap (t4a - (1 : Int)), r31.2.1, r31.2.2, true, true, IntKind.i64.wrap (r31.1 - (1 : Int)), b33536_3b, b33536_4b, b33536_5b, b33536_6b, b33536_7b, b33536_8b, b33536_9b, b33536_10b, b33536_11b, b33536_12b, b33536_13b, b33536_14b, b33536_15b, b33536_16b, b33536_17b, b33536_18b))
 else (bif (r13.1 == (2 : Int)) then (k1 (IntKind.i64.wrap (t4a - (1 : Int)), b0_0b, b0_1b, true, false, (-1), b33536_3b, b33536_4b, b33536_5b, b33536_6b, b33536_7b, b33536_8b, b33536_9b, b33536_10b, b33536_11b, b33536_12b, b33536_13b, b33536_14b, b33536_15b, b33536_16b, b33536_17b, b33536_18b))
 else (bif (r13.1 == (3 : Int)) then (callO (made_Deck_Next N (b0_0b, b0_1b) 511) fun r44 =>
 k1 (IntKind.i64.wrap (t4a - (1 : Int)), r44.2.1, r44.2.2, b33536_0b, b33536_1b, b33536_2b, IntKind.i64.wrap ((1 : Int) + r44.1), b33536_4b, b33536_5b, b33536_6b, b33536_7b, b33536_8b, b33536_9b, b33536_10b, b33536_11b, b33536_12b, b33536_13b, b33536_14b, b33536_15b, b33536_16b, b33536_17b, b33536_18b))
 else (bif (r13.1 == (4 : Int)) then (callO (made_oids N (b0_0b, b0_1b) true) fun r50 =>
 k1 (IntKind.i64.wrap (t4a - (1 : Int)), r50.2.1, r50.2.2, b33536_0b, b33536_1b, b33536_2b, b33536_3b, r50.1, b33536_5b, b33536_6b, b33536_7b, b33536_8b, b33536_9b, b33536_10b, b33536_11b, b33536_12b, b33536_13b, b33536_14b, b33536_15b, b33536_16b, b33536_17b, b33536_18b))
 else (bif (r13.1 == (5 : Int)) then (callO (made_oids N (b0_0b, b0_1b) false) fun r55 =>
 k1 (IntKind.i64.wrap (t4a - (1 : Int)), r55.2.1, r55.2.2, b33536_0b, b33536_1b, b33536_2b, b33536_3b, b33536_4b, r55.1, b33536_6b, b33536_7b, b33536_8b, b33536_9b, b33536_10b, b33536_11b, b33536_12b, b33536_13b, b33536_14b, b33536_15b, b33536_16b, b33536_17b, b33536_18b))
 else (bif (r13.1 == (6 : Int)) then (callO (made_mappings N (b0_0b, b0_1b)) fun r60 =>
 k1 (IntKind.i64.wrap (t4a - (1 : Int)), r60.2.1, r60.2.2, b33536_0b, b33536_1b, b33536_2b, b33536_3b, b33536_4b, b33536_5b, r60.1, b33536_7b, b33536_8b, b33536_9b, b33536_10b, b33536_11b, b33536_12b, b33536_13b, b33536_14b, b33536_15b, b33536_16b, b33536_17b, b33536_18b))
 else (bif (r13.1 == (7 : Int)) then (callO (made_Deck_Next N (b0_0b, b0_1b) 5) fun r65 =>
 callO (made_Deck_Next N r65.2 5) fun r68 =>
 k1 (IntKind.i64.wrap (t4a - (1 : Int)), r68.2.1, r68.2.2, b33536_0b, b33536_1b, b33536_2b, b33536_3b, b33536_4b, b33536_5b, b33536_6b, IntKind.i64.wrap (r65.1 - (1 : Int)), IntKind.i64.wrap (r68.1 - (1 : Int)), b33536_9b, b33536_10b, b33536_11b, b33536_12b, b33536_13b, b33536_14b, b33536_15b, b33536_16b, b33536_17b, b33536_18b))
 else (bif (r13.1 == (8 : Int)) then (callO (made_Deck_Next N (b0_0b, b0_1b) 65) fun r75 =>
 k1 (IntKind.i64.wrap (t4a - (1 : Int)), r75.2.1, r75.2.2, b33536_0b, b33536_1b, b33536_2b, b33536_3b, b33536_4b, b33536_5b, b33536_6b, b33536_7b, b33536_8b, r75.1, b33536_10b, b33536_11b, b33536_12b, b33536_13b, b33536_14b, b33536_15b, b33536_16b, b33536_17b, b33536_18b))
 else (bif (r13.1 == (9 : Int)) then (callO (made_General N (b0_0b, b0_1b)) fun r80 =>
 callO (made_General N r80.2) fun r82 =>
 callO (made_Deck_Next N r82.2 2) fun r85 =>
 chk (decide ((0 : Int) ≤ IntKind.i64.wrap ((1 : Int) + r85.1))) <|
 chk (decide (IntKind.i64.wrap ((1 : Int) + r85.1) ≤ (2 : Int))) <|
 k1 (IntKind.i64.wrap (t4a - (1 : Int)), r85.2.1, r85.2.2, b33536_0b, b33536_1b, b33536_2b, b33536_3b, b33536_4b, b33536_5b, b33536_6b, b33536_7b, b33536_8b, b33536_9b, cutL ([r80.1, r82.1] : List Yq3) 0 ((IntKind.i64.wrap ((1 : Int) + r85.1)).toNat), b33536_11b, b33536_12b, b33536_13b, b33536_14b, b33536_15b, b33536_16b, b33536_17b, b33536_18b))
 else (bif (r13.1 == (10 : Int)) then (callO (made_Subtrees N (b0_0b, b0_1b)) fun r92 =>
 k1 (IntKind.i64.wrap (t4a - (1 : Int)), r92.2.1, r92.2.2, b33536_0b, b33536_1b, b33536_2b, b33536_3b, b33536_4b, b33536_5b, b33536_6b, b33536_7b, b33536_8b, b33536_9b, b33536_10b, true, r92.1.1, r92.1.2, b33536_14b, b33536_15b, b33536_16b, b33536_17b, b33536_18b))
 else (bif (r13.1 == (11 : Int)) then (callO (made_Deck_Next N (b0_0b, b0_1b) 3) fun r99 =>
 chk (decide ((0 : Int) ≤ r99.1)) <|
 chk (decide (r99.1 < (3 : Int))) <|
 chk (decide (r99.1.toNat < 3)) <|
 let x101 : Bs := (([([] : Bs), ([48, 49, 50, 51, 52, 53, 54, 55, 56, 57, 97, 98, 99, 100, 101, 102] : Bs), ([120] : Bs)] : List Bs).getD r99.1.toNat ([] : Bs))
 callO (made_Deck_Next N r99.2 2) fun r104 =>
 chk (decide ((0 : Int) ≤ r104.1)) <|
 chk (decide (r104.1 < (2 : Int))) <|
 chk (decide (r104.1.toNat < 2)) <|
 let x106 : Bs := (([([] : Bs), ([102, 101, 100, 99, 98, 97, 57, 56, 55, 54, 53, 52, 51, 50, 49, 48] : Bs)] : List Bs).getD r104.1.toNat ([] : Bs))
 k1 (IntKind.i64.wrap (t4a - (1 : Int)), r104.2.1, r104.2.2, b33536_0b, b33536_1b, b33536_2b, b33536_3b, b33536_4b, b33536_5b, b33536_6b, b33536_7b, b33536_8b, b33536_9b, b33536_10b, b33536_11b, b33536_12b, b33536_13b, x101, x106, b33536_16b, b33536_17b, b33536_18b))
 else (bif (r13.1 == (12 : Int)) then (callO (made_points N (b0_0b, b0_1b)) fun r112 =>
 k1 (IntKind.i64.wrap (t4a - (1 : Int)), r112.2.1, r112.2.2, b33536_0b, b33536_1b, b33536_2b, b33536_3b, b33536_4b, b33536_5b, b33536_6b, b33536_7b, b33536_8b, b33536_9b, b33536_10b, b33536_11b, b33536_12b, b33536_13b, b33536_14b, b33536_15b, r112.1, b33536_17b, b33536_18b))
 else (callO (made_points N (b0_0b, b0_1b)) fun r15 =>
 callO (made_Deck_Next N r15.2 2) fun r18 =>
 callO (made_Deck_Next N r18.2 3) fun r24 =>
 chk (decide ((0 : Int) ≤ r24.1)) <|
 chk (decide (r24.1 ≤ (2 : Int))) <|
 k1 (IntKind.i64.wrap (t4a - (1 : Int)), r24.2.1, r24.2.2, b33536_0b, b33536_1b, b33536_2b, b33536_3b, b33536_4b, b33536_5b, b33536_6b, b33536_7b, b33536_8b, b33536_9b, b33536_10b, b33536_11b, b33536_12b, b33536_13b, b33536_14b, b33536_15b, b33536_16b, r15.1, cutL ([(([49, 46, 50, 46, 51, 46, 52, 46, 53] : Bs), (r18.1 == (1 : Int)), ([5, 0] : Bs)), (([49, 46, 50, 46, 51, 46, 52, 46, 54] : Bs), false, ([48, 3, 2, 1, 7] : Bs))] : List (Bs × Bool × Bs)) 0 r24.1.toNat)))))))))))))))
 else (x2 (b0_0a, b0_1a, b33536_0a, b33536_1a, b33536_2a, b33536_3a, b33536_4a, b33536_5a, b33536_6a, b33536_7a, b33536_8a, b33536_9a, b33536_10a, b33536_11a, b33536_12a, b33536_13a, b33536_14a, b33536_15a, b33536_16a, b33536_17a, b33536_18a)))
 N (r7.1, r7.2.1, r7.2.2, r5.1, r5.2.1, r5.2.2.1, r5.2.2.2.1, r5.2.2.2.2.1, r5.2.2.2.2.2.1, r5.2.2.2.2.2.2.1, r5.2.2.2.2.2.2.2.1, r5.2.2.2.2.2.2.2.2.1, r5.2.2.2.2.2.2.2.2.2.1, r5.2.2.2.2.2.2.2.2.2.2.1, r5.2.2.2.2.2.2.2.2.2.2.2.1, r5.2.2.2.2.2.2.2.2.2.2.2.2.1, r5.2.2.2.2.2.2.2.2.2.2.2.2.2.1, r5.2.2.2.2.2.2.2.2.2.2.2.2.2.2.1, r5.2.2.2.2.2.2.2.2.2.2.2.2.2.2.2.1, r5.2.2.2.2.2.2.2.2.2.2.2.2.2.2.2.2.1, r5.2.2.2.2.2.2.2.2.2.2.2.2.2.2.2.2.2.1, r5.2.2.2.2.2.2.2.2.2.2.2.2.2.2.2.2.2.2) (U21 fun b0_0c b0_1c b33536_0c b33536_1c b33536_2c b33536_3c b33536_4c b33536_5c b33536_6c b33536_7c b33536_8c b33536_9c b33536_10c b33536_11c b33536_12c b33536_13c b33536_14c b33536_15c b33536_16c b33536_17c b33536_18c =>
 some ((b33536_0c, b33536_1c, b33536_2c, b33536_3c, b33536_4c, b33536_5c, b33536_6c, b33536_7c, b33536_8c, b33536_9c, b33536_10c, b33536_11c, b33536_12c, b33536_13c, b33536_14c, b33536_15c, b33536_16c, b33536_17c, b33536_18c), (b0_0c, b0_1c)))

-- certpath/certpathmade.Cert
abbrev made_Cert_O : Type := Yq12 × List Int × Int
def made_Cert (N : Nat) (p0 : List Int × Int) : Option made_Cert_O :=
 callO (made_Deck_Next N p0 300) fun r5 =>
 callO (made_Deck_Next N r5.2 16) fun r8 =>
 callO (made_Authority N r8.1) fun r9 =>
 callO (made_Name N r8.2) fun r11 =>
 callO (made_Time N r11.2) fun r13 =>
 callO (made_Time N r13.2) fun r15 =>
 callO (made_Key N r15.2) fun r17 =>
 callO (made_Info N r17.2) fun r19 =>
 letJ (α := List Int × Int × Int × List Yq2 × List Yq2 × Int × Int × Int × Bs × Bs × Bool × Bool × Int × Int × List Bs × List Bs × (List (Bs × Bs)) × Int × Int × Int × List Yq3 × Bool × List Yq3 × List Yq3 × Bs × Bs × List Yq5 × List Yq5 × List (Bs × Bool × Bs)) (fun j1 =>
 bif decide (r13.1 > r15.1) then (j1 (r19.2.1, r19.2.2, IntKind.i64.wrap ((1 : Int) + r5.1), r9, r11.1, r15.1, r13.1, r17.1.1, r17.1.2.1, r17.1.2.2, r19.1.1, r19.1.2.1, r19.1.2.2.1, r19.1.2.2.2.1, r19.1.2.2.2.2.1, r19.1.2.2.2.2.2.1, r19.1.2.2.2.2.2.2.1, r19.1.2.2.2.2.2.2.2.1, r19.1.2.2.2.2.2.2.2.2.1, r19.1.2.2.2.2.2.2.2.2.2.1, r19.1.2.2.2.2.2.2.2.2.2.2.1, r19.1.2.2.2.2.2.2.2.2.2.2.2.1, r19.1.2.2.2.2.2.2.2.2.2.2.2.2.1, r19.1.2.2.2.2.2.2.2.2.2.2.2.2.2.1, r19.1.2.2.2.2.2.2.2.2.2.2.2.2.2.2.1, r19.1.2.2.2.2.2.2.2.2.2.2.2.2.2.2.2.1, r19.1.2.2.2.2.2.2.2.2.2.2.2.2.2.2.2.2.1, r19.1.2.2.2.2.2.2.2.2.2.2.2.2.2.2.2.2.2.1, r19.1.2.2.2.2.2.2.2.2.2.2.2.2.2.2.2.2.2.2))
 else (j1 (r19.2.1, r19.2.2, IntKind.i64.wrap ((1 : Int) + r5.1), r9, r11.1, r13.1, r15.1, r17.1.1, r17.1.2.1, r17.1.2.2, r19.1.1, r19.1.2.1, r19.1.2.2.1, r19.1.2.2.2.1, r19.1.2.2.2.2.1, r19.1.2.2.2.2.2.1, r19.1.2.2.2.2.2.2.1, r19.1.2.2.2.2.2.2.2.1, r19.1.2.2.2.2.2.2.2.2.1, r19.1.2.2.2.2.2.2.2.2.2.1, r19.1.2.2.2.2.2.2.2.2.2.2.1, r19.1.2.2.2.2.2.2.2.2.2.2.2.1, r19.1.2.2.2.2.2.2.2.2.2.2.2.2.1, r19.1.2.2.2.2.2.2.2.2.2.2.2.2.2.1, r19.1.2.2.2.2.2.2.2.2.2.2.2.2.2.2.1, r19.1.2.2.2.2.2.2.2.2.2.2.2.2.2.2.2.1, r19.1.2.2.2.2.2.2.2.2.2.2.2.2.2.2.2.2.1, r19.1.2.2.2.2.2.2.2.2.2.2.2.2.2.2.2.2.2.1, r19.1.2.2.2.2.2.2.2.2.2.2.2.2.2.2.2.2.2.2)))
 (U29 fun b0_0a b0_1a b33536_2a b33536_3a b33536_4a b33536_5a b33536_6a b33536_7a b33536_8a b33536_9a b33536_10a b33536_11a b33536_12a b33536_13a b33536_14a b33536_15a b33536_16a b33536_17a b33536_18a b33536_19a b33536_20a b33536_21a b33536_22a b33536_23a b33536_24a b33536_25a b33536_26a b33536_27a b33536_28a =>
 chk ((b33536_11a || (!b33536_11a))) <|
 chk ((b33536_11a || (!b33536_11a))) <|
 chk ((b33536_11a || (!b33536_11a))) <|
 chk ((b33536_11a || (!b33536_11a))) <|
 chk (bif b33536_11a then b33536_11a else true) <|
 chk (bif b33536_11a then true else true) <|
 bif bif b33536_11a then ((b33536_4a.length : Int) == (0 : Int)) else false then (callO (made_Authority N 1) fun r42 =>
 some ((([] : Bs), ([] : Bs), b33536_2a, b33536_3a, r42, b33536_5a, b33536_6a, b33536_7a, b33536_8a, b33536_9a, b33536_10a, b33536_11a, b33536_12a, b33536_13a, b33536_14a, b33536_15a, b33536_16a, b33536_17a, b33536_18a, b33536_19a, b33536_20a, b33536_21a, b33536_22a, b33536_23a, b33536_24a, b33536_25a, b33536_26a, b33536_27a, b33536_28a, ([] : Bs)), (b0_0a, b0_1a)))
 else (some ((([] : Bs), ([] : Bs), b33536_2a, b33536_3a, b33536_4a, b33536_5a, b33536_6a, b33536_7a, b33536_8a, b33536_9a, b33536_10a, b33536_11a, b33536_12a, b33536_13a, b33536_14a, b33536_15a, b33536_16a, b33536_17a, b33536_18a, b33536_19a, b33536_20a, b33536_21a, b33536_22a, b33536_23a, b33536_24a, b33536_25a, b33536_26a, b33536_27a, b33536_28a, ([] : Bs)), (b0_0a, b0_1a))))

-- certpath/certpathlaw20.item
abbrev law20_item_O : Type := Bs × List Int × Int
def law20_item (N : Nat) (p0 : List Int × Int) : Option law20_item_O :=
 callO (made_Deck_Next N p0 5) fun r4 =>
 bif (r4.1 == (0 : Int)) then (callO (made_Deck_Next N r4.2 3) fun r8 =>
 chk (List.all ([IntKind.u8.wrap r8.1] : List Int) isByte) <|
 chk (decide (4 + (List.map byteOf ([IntKind.u8.wrap r8.1] : List Int)).length ≤ 140737488355328)) <|
 let x12 : Bs := ([48, 3, 2, 1] : Bs) ++ (List.map byteOf ([IntKind.u8.wrap r8.1] : List Int))
 some (x12, r8.2))
 else (bif (r4.1 == (1 : Int)) then (callO (made_Deck_Next N r4.2 4) fun r16 =>
 callO (made_New N ([r16.1] : List Int)) fun r18 =>
 callO (made_List N r18) fun r19 =>
 callO (made_SealedList N r19.1) fun r20 =>
 some (r20, r16.2))
 else (callO (made_Deck_Next N r4.2 4) fun r22 =>
 callO (made_Deck_Next N r22.2 3) fun r24 =>
 callO (made_New N ([r22.1, r24.1] : List Int)) fun r26 =>
 callO (made_Cert N r26) fun r27 =>
 callO (made_Sealed N r27.1) fun r28 =>
 some (r28, r24.2)))

-- certpath/certpathlaw20.made
abbrev law20_made_O : Type := Yq0 × List Int × Int
def law20_made (N : Nat) (p0 : List Int × Int) : Option law20_made_O :=
 callO (made_Deck_Next N p0 4) fun r10 =>
 iterG (X := Int × List Int × Int × List Bs) (Y := (List Int × Int × List Bs)) (U4 fun t4a b0_0a b0_1a l1000000a k1 x2 =>
 bif decide (t4a > (0 : Int)) then (callO (law20_item N (b0_0a, b0_1a)) fun r18 =>
 chk (decide ((l1000000a.length + 1) * 17 ≤ 140737488355328)) <|
 k1 (IntKind.i64.wrap (t4a - (1 : Int)), r18.2.1, r18.2.2, l1000000a ++ ([r18.1] : List Bs)))
 else (x2 (b0_0a, b0_1a, l1000000a)))
 N (r10.1, r10.2.1, r10.2.2, ([] : List Bs)) (U3 fun b0_0b b0_1b l1004096b =>
 callO (made_Deck_Next N (b0_0b, b0_1b) 4) fun r23 =>
 iterG (X := Int × List Int × Int × List Bs × List Bs) (Y := (List Int × Int × List Bs × List Bs)) (U5 fun t5c b0_0c b0_1c l1004096c l1008192c k3 x4 =>
 bif decide (t5c > (0 : Int)) then (callO (law20_item N (b0_0c, b0_1c)) fun r31 =>
 chk (decide ((l1008192c.length + 1) * 17 ≤ 140737488355328)) <|
 k3 (IntKind.i64.wrap (t5c - (1 : Int)), r31.2.1, r31.2.2, l1004096c, l1008192c ++ ([r31.1] : List Bs)))
 else (x4 (b0_0c, b0_1c, l1004096c, l1008192c)))
 N (r23.1, r23.2.1, r23.2.2, l1004096b, ([] : List Bs)) (U4 fun b0_0d b0_1d l1004096d l1012288d =>
 callO (made_Deck_Next N (b0_0d, b0_1d) 3) fun r36 =>
 iterG (X := Int × List Int × Int × List Bs × List Bs × List (Bs × Bs)) (Y := (List Int × Int × List Bs × List Bs × List (Bs × Bs))) (U6 fun t6e b0_0e b0_1e l1004096e l1012288e l1016384e k5 x6 =>
 bif decide (t6e > (0 : Int)) then (callO (law20_item N (b0_0e, b0_1e)) fun r42 =>
 callO (law20_item N r42.2) fun r44 =>
 letJ (α := List Int × Int × Bs × Bs × List Bs × List Bs × List (Bs × Bs)) (fun j7 =>
 callO (made_Deck_Next N r44.2 3) fun r47 =>
 bif (r47.1 == (0 : Int)) then (j7 (r47.2.1, r47.2.2, ([] : Bs), r44.1, l1004096e, l1012288e, l1016384e))
 else (bif (r47.1 == (1 : Int)) then (j7 (r47.2.1, r47.2.2, r42.1, ([] : Bs), l1004096e, l1012288e, l1016384e))
 else (j7 (r47.2.1, r47.2.2, r42.1, r44.1, l1004096e, l1012288e, l1016384e))))
 (U7 fun b0_0f b0_1f b34560_0f b34560_1f l1004096f l1012288f l1020480f =>
 chk (decide ((l1020480f.length + 1) * 33 ≤ 140737488355328)) <|
 k5 (IntKind.i64.wrap (t6e - (1 : Int)), b0_0f, b0_1f, l1004096f, l1012288f, l1020480f ++ ([(b34560_0f, b34560_1f)] : List (Bs × Bs)))))
 else (x6 (b0_0e, b0_1e, l1004096e, l1012288e, l1016384e)))
 N (r36.1, r36.2.1, r36.2.2, l1004096d, l1012288d, ([] : List (Bs × Bs))) (U5 fun b0_0g b0_1g l1004096g l1012288g l1024576g =>
 some ((l1004096g, l1012288g, l1024576g), (b0_0g, b0_1g)))))

-- (certpath/bundle.seen).first
abbrev bundle_seen_first_O : Type := Bool × Yq13
def bundle_seen_first (N : Nat) (p0 : Yq13) (p1 : Bs) (p2 : Bs) : Option bundle_seen_first_O :=
 bif ((mget (.str (.str .nil)) (p1, p2) p0).getD false) then (some (false, p0))
 else (some (true, mput (.str (.str .nil)) (p1, p2) true p0))

-- certpath/bundle.distinct
abbrev bundle_distinct_O : Type := List Bs
def bundle_distinct (N : Nat) (p0 : List Bs) (p1 : List Bs) : Option bundle_distinct_O :=
 chk (decide (p0.length * 17 ≤ 140737488355328)) <|
 chk (decide ((p0.length + p1.length) * 17 ≤ 140737488355328)) <|
 iterG (X := Int × (List ((Bs × Bs) × Bool)) × List Bs × List Bs) (Y := (List Bs)) (U4 fun t15a m35072a l36096a l1000000a k1 x2 =>
 bif decide (t15a < ((p0 ++ p1).length : Int)) then (chk (decide ((0 : Int) ≤ t15a)) <|
 chk (decide (t15a < (l36096a.length : Int))) <|
 chk (decide (t15a.toNat < l36096a.length)) <|
 callO (bundle_seen_first N m35072a (l36096a.getD t15a.toNat ([] : Bs)) ([] : Bs)) fun r21 =>
 bif r21.1 then (chk (decide ((l1000000a.length + 1) * 17 ≤ 140737488355328)) <|
 k1 (IntKind.i64.wrap (t15a + (1 : Int)), r21.2, l36096a, l1000000a ++ ([(l36096a.getD t15a.toNat ([] : Bs))] : List Bs)))
 else (k1 (IntKind.i64.wrap (t15a + (1 : Int)), r21.2, l36096a, l1000000a)))
 else (x2 l1000000a))
 N (0, ([] : List ((Bs × Bs) × Bool)), p0 ++ p1, ([] : List Bs)) (fun l1004096b =>
 some l1004096b)

-- certpath/bundle.Merge
abbrev bundle_Merge_O : Type := Yq0 × Int
def bundle_Merge (N : Nat) (p0 : List Yq0) : Option bundle_Merge_O :=
 iterG (X := Int × List Bs × List Bs × (List ((Bs × Bs) × Bool)) × List (Bs × Bs)) (Y := (List Bs × List Bs × List (Bs × Bs))) (U5 fun t14a b33792_0a b33792_1a m35584a l1000000a k1 x2 =>
 bif decide (t14a < (p0.length : Int)) then (chk (decide ((0 : Int) ≤ t14a)) <|
 chk (decide (t14a < (p0.length : Int))) <|
 callO (bundle_distinct N b33792_0a ((p0.getD t14a.toNat (([] : List Bs), ([] : List Bs), ([] : List (Bs × Bs)))).1)) fun r22 =>
 callO (bundle_distinct N b33792_1a ((p0.getD t14a.toNat (([] : List Bs), ([] : List Bs), ([] : List (Bs × Bs)))).2.1)) fun r28 =>
 let x32 : Int := (((p0.getD t14a.toNat (([] : List Bs), ([] : List Bs), ([] : List (Bs × Bs)))).2.2).length : Int)
 iterG (X := Int × List Bs × List Bs × (List ((Bs × Bs) × Bool)) × List (Bs × Bs)) (Y := (List Bs × List Bs × (List ((Bs × Bs) × Bool)) × List (Bs × Bs))) (U5 fun t33b b33792_0b b33792_1b m35584b l1004096b k3 x4 =>
 bif decide (t33b < x32) then (chk (decide ((0 : Int) ≤ t33b)) <|
 chk (decide (t33b < (((p0.getD t14a.toNat (([] : List Bs), ([] : List Bs), ([] : List (Bs × Bs)))).2.2).length : Int))) <|
 let x39 : Bs := (((p0.getD t14a.toNat (([] : List Bs), ([] : List Bs), ([] : List (Bs × Bs)))).2.2).getD t33b.toNat (([] : Bs), ([] : Bs))).1
 let x41 : Bs := (((p0.getD t14a.toNat (([] : List Bs), ([] : List Bs), ([] : List (Bs × Bs)))).2.2).getD t33b.toNat (([] : Bs), ([] : Bs))).2
 callO (bundle_seen_first N m35584b x39 x41) fun r42 =>
 bif r42.1 then (chk (decide ((l1004096b.length + 1) * 33 ≤ 140737488355328)) <|
 let y44800 : List (Bs × Bs) := l1004096b ++ ([(((p0.getD t14a.toNat (([] : List Bs), ([] : List Bs), ([] : List (Bs × Bs)))).2.2).getD t33b.toNat (([] : Bs), ([] : Bs)))] : List (Bs × Bs))
 k3 (IntKind.i64.wrap (t33b + (1 : Int)), b33792_0b, b33792_1b, r42.2, y44800))
 else (k3 (IntKind.i64.wrap (t33b + (1 : Int)), b33792_0b, b33792_1b, r42.2, l1004096b)))
 else (x4 (b33792_0b, b33792_1b, m35584b, l1004096b)))
 N (0, r22, r28, m35584a, l1000000a) (U4 fun b33792_0c b33792_1c m35584c l1008192c =>
 k1 (IntKind.i64.wrap (t14a + (1 : Int)), b33792_0c, b33792_1c, m35584c, l1008192c)))
 else (x2 (b33792_0a, b33792_1a, l1000000a)))
 N (0, ([] : List Bs), ([] : List Bs), ([] : List ((Bs × Bs) × Bool)), ([] : List (Bs × Bs))) (U3 fun b33792_0d b33792_1d l1012288d =>
 callO (bundle_Check N (b33792_0d, b33792_1d, l1012288d)) fun r52 =>
 bif (r52 != (0 : Int)) then (some ((([] : List Bs), ([] : List Bs), ([] : List (Bs × Bs))), r52))
 else (some ((b33792_0d, b33792_1d, l1012288d), 0)))

-- certpath/certpathref14.contains
abbrev ref14_contains_O : Type := Bool
def ref14_contains (N : Nat) (p0 : List Bs) (p1 : Bs) : Option ref14_contains_O :=
 iterG (X := Int) (Y := Unit) (fun t9a k1 x2 =>
 bif decide (t9a < (p0.length : Int)) then (chk (decide ((0 : Int) ≤ t9a)) <|
 chk (decide (t9a < (p0.length : Int))) <|
 bif ((p0.getD t9a.toNat ([] : Bs)) == p1) then (some true)
 else (k1 (IntKind.i64.wrap (t9a + (1 : Int)))))
 else (x2 ()))
 N 0 (fun _ =>
 some false)

-- certpath/certpathref14.sequence
abbrev ref14_sequence_O : Type := Int
def ref14_sequence (N : Nat) (p0 : Bs) : Option ref14_sequence_O :=
 callO (ref01_Check N p0) fun r5 =>
 bif (r5 != (0 : Int)) then (some r5)
 else (chk (decide ((0 : Int) < (p0.length : Int))) <|
 bif (((p0.getD 0 0).toNat : Int) != (48 : Int)) then (some 5)
 else (some 0))

-- certpath/certpathref14.CheckBundle
abbrev ref14_CheckBundle_O : Type := Int
def ref14_CheckBundle (N : Nat) (p0 : Yq0) : Option ref14_CheckBundle_O :=
 chk (((!(decide ((p0.1.length : Int) > (64 : Int)))) || (!(!(decide ((p0.1.length : Int) > (64 : Int))))))) <|
 chk (((!(decide ((p0.1.length : Int) > (64 : Int)))) || (!(!(decide ((p0.1.length : Int) > (64 : Int))))))) <|
 chk (((!(decide ((p0.1.length : Int) > (64 : Int)))) || (!(!(decide ((p0.1.length : Int) > (64 : Int))))))) <|
 chk (bif decide ((p0.1.length : Int) > (64 : Int)) then true else !(decide ((p0.1.length : Int) > (64 : Int)))) <|
 chk (bif decide ((p0.1.length : Int) > (64 : Int)) then true else true) <|
 let x22 : Bool := bif decide ((p0.1.length : Int) > (64 : Int)) then true else decide ((p0.2.1.length : Int) > (64 : Int))
 chk (((!x22) || (!(!x22)))) <|
 chk (((!x22) || (!(!x22)))) <|
 chk (((!x22) || (!(!x22)))) <|
 chk (bif x22 then true else !x22) <|
 chk (bif x22 then true else true) <|
 bif bif x22 then true else decide ((p0.2.2.length : Int) > (64 : Int)) then (some 2)
 else (iterG (X := Int × List Bs × List Bs × (List (Bs × Bs)) × List (List Bs)) (Y := (List Bs × List Bs × List (Bs × Bs))) (U5 fun t35a b33024_0a b33024_1a b33024_2a l41216a k1 x2 =>
 bif decide (t35a < (2 : Int)) then (chk (decide ((0 : Int) ≤ t35a)) <|
 chk (decide (t35a < (l41216a.length : Int))) <|
 chk (decide (t35a.toNat < l41216a.length)) <|
 iterG (X := Int × List Bs × List Bs × (List (Bs × Bs)) × List (List Bs)) (Y := (List Bs × List Bs × (List (Bs × Bs)) × List (List Bs))) (U5 fun t41b b33024_0b b33024_1b b33024_2b l41216b k3 x4 =>
 let x42 : Bool := decide (t41b < ((l41216a.getD t35a.toNat ([] : List Bs)).length : Int))
 bif x42 then (chk (decide ((0 : Int) ≤ t41b)) <|
 chk (decide (t41b < ((l41216a.getD t35a.toNat ([] : List Bs)).length : Int))) <|
 callO (ref14_sequence N ((l41216a.getD t35a.toNat ([] : List Bs)).getD t41b.toNat ([] : Bs))) fun r46 =>
 bif (r46 != (0 : Int)) then (some r46)
 else (k3 (IntKind.i64.wrap (t41b + (1 : Int)), b33024_0b, b33024_1b, b33024_2b, l41216b)))
 else (x4 (b33024_0b, b33024_1b, b33024_2b, l41216b)))
 N (0, b33024_0a, b33024_1a, b33024_2a, l41216a) (U4 fun b33024_0c b33024_1c b33024_2c l41216c =>
 k1 (IntKind.i64.wrap (t35a + (1 : Int)), b33024_0c, b33024_1c, b33024_2c, l41216c)))
 else (x2 (b33024_0a, b33024_1a, b33024_2a)))
 N (0, p0.1, p0.2.1, p0.2.2, ([p0.1, p0.2.1] : List (List Bs))) (U3 fun b33024_0d b33024_1d b33024_2d =>
 iterG (X := Int) (Y := Unit) (fun t55e k5 x6 =>
 bif decide (t55e < (b33024_2d.length : Int)) then (chk (decide ((0 : Int) ≤ t55e)) <|
 chk (decide (t55e < (b33024_2d.length : Int))) <|
 chk (((((b33024_2d.getD t55e.toNat (([] : Bs), ([] : Bs))).1) == ([] : Bs)) || (!(((b33024_2d.getD t55e.toNat (([] : Bs), ([] : Bs))).1) == ([] : Bs))))) <|
 chk (((((b33024_2d.getD t55e.toNat (([] : Bs), ([] : Bs))).1) == ([] : Bs)) || (!(((b33024_2d.getD t55e.toNat (([] : Bs), ([] : Bs))).1) == ([] : Bs))))) <|
 chk (bif (((b33024_2d.getD t55e.toNat (([] : Bs), ([] : Bs))).1) == ([] : Bs)) then (((b33024_2d.getD t55e.toNat (([] : Bs), ([] : Bs))).1) == ([] : Bs)) else true) <|
 chk (bif (((b33024_2d.getD t55e.toNat (([] : Bs), ([] : Bs))).1) == ([] : Bs)) then true else true) <|
 let x66 : Bool := bif (((b33024_2d.getD t55e.toNat (([] : Bs), ([] : Bs))).1) == ([] : Bs)) then (((b33024_2d.getD t55e.toNat (([] : Bs), ([] : Bs))).2) == ([] : Bs)) else false
 bif x66 then (some 7)
 else (iterG (X := Int × List Bs) (Y := Unit) (U2 fun t73f l50944f k7 x8 =>
 bif decide (t73f < (2 : Int)) then (chk (decide ((0 : Int) ≤ t73f)) <|
 chk (decide (t73f < (l50944f.length : Int))) <|
 chk (decide (t73f.toNat < l50944f.length)) <|
 bif ((l50944f.getD t73f.toNat ([] : Bs)) == ([] : Bs)) then (k7 (IntKind.i64.wrap (t73f + (1 : Int)), l50944f))
 else (callO (ref14_sequence N (l50944f.getD t73f.toNat ([] : Bs))) fun r80 =>
 bif (r80 != (0 : Int)) then (some r80)
 else (k7 (IntKind.i64.wrap (t73f + (1 : Int)), l50944f))))
 else (x8 ()))
 N (0, ([(b33024_2d.getD t55e.toNat (([] : Bs), ([] : Bs))).1, (b33024_2d.getD t55e.toNat (([] : Bs), ([] : Bs))).2] : List Bs)) (fun _ =>
 k5 (IntKind.i64.wrap (t55e + (1 : Int))))))
 else (x6 ()))
 N 0 (fun _ =>
 some 0)))

end Go.Proofs.YtnllccjmbijjlaaGreat.Vm

namespace Go.Proofs.YtnllccjmbijjlaaGreat.Vm
open Go.Proofs
-- certpath/certpathref14.Merge
abbrev ref14_Merge_O : Type := Yq0 × Int
def ref14_Merge (N : Nat) (p0 : List Yq0) : Option ref14_Merge_O :=
 iterG (X := Int × (List (Bs × Bs)) × List Bs × List Bs) (Y := ((List (Bs × Bs)) × List Bs × List Bs)) (U4 fun t20a l1000000a l1000016a l1000032a k1 x2 =>
 bif decide (t20a < (p0.length : Int)) then (chk (decide ((0 : Int) ≤ t20a)) <|
 chk (decide (t20a < (p0.length : Int))) <|
 let x26 : Int := (((p0.getD t20a.toNat (([] : List Bs), ([] : List Bs), ([] : List (Bs × Bs)))).1).length : Int)
 iterG (X := Int × List Bs × List Bs × (List (Bs × Bs)) × List Bs × (List (Bs × Bs)) × List Bs) (Y := (List Bs × List Bs × (List (Bs × Bs)) × List Bs × (List (Bs × Bs)) × List Bs)) (U7 fun t27b b34304_0b b34304_1b b34304_2b l1004096b l1004112b l1004128b k3 x4 =>
 bif decide (t27b < x26) then (chk (decide ((0 : Int) ≤ t27b)) <|
 chk (decide (t27b < (((p0.getD t20a.toNat (([] : List Bs), ([] : List Bs), ([] : List (Bs × Bs)))).1).length : Int))) <|
 let x30 : Bs := (((p0.getD t20a.toNat (([] : List Bs), ([] : List Bs), ([] : List (Bs × Bs)))).1).getD t27b.toNat ([] : Bs))
 callO (ref14_contains N l1004096b x30) fun r34 =>
 bif !r34 then (chk (decide ((l1004096b.length + 1) * 17 ≤ 140737488355328)) <|
 k3 (IntKind.i64.wrap (t27b + (1 : Int)), b34304_0b, b34304_1b, b34304_2b, l1004096b ++ ([x30] : List Bs), l1004112b, l1004128b))
 else (k3 (IntKind.i64.wrap (t27b + (1 : Int)), b34304_0b, b34304_1b, b34304_2b, l1004096b, l1004112b, l1004128b)))
 else (x4 (b34304_0b, b34304_1b, b34304_2b, l1004096b, l1004112b, l1004128b)))
 N (0, (p0.getD t20a.toNat (([] : List Bs), ([] : List Bs), ([] : List (Bs × Bs)))).1, (p0.getD t20a.toNat (([] : List Bs), ([] : List Bs), ([] : List (Bs × Bs)))).2.1, (p0.getD t20a.toNat (([] : List Bs), ([] : List Bs), ([] : List (Bs × Bs)))).2.2, l1000032a, l1000000a, l1000016a) (U6 fun b34304_0c b34304_1c b34304_2c l1008192c l1008208c l1008224c =>
 iterG (X := Int × List Bs × List Bs × (List (Bs × Bs)) × List Bs × List Bs × List (Bs × Bs)) (Y := (List Bs × List Bs × (List (Bs × Bs)) × List Bs × List Bs × List (Bs × Bs))) (U7 fun t46d b34304_0d b34304_1d b34304_2d l1008192d l1012288d l1012304d k5 x6 =>
 bif decide (t46d < (b34304_1c.length : Int)) then (chk (decide ((0 : Int) ≤ t46d)) <|
 chk (decide (t46d < (b34304_1c.length : Int))) <|
 callO (ref14_contains N l1012288d (b34304_1c.getD t46d.toNat ([] : Bs))) fun r53 =>
 bif !r53 then (chk (decide ((l1012288d.length + 1) * 17 ≤ 140737488355328)) <|
 k5 (IntKind.i64.wrap (t46d + (1 : Int)), b34304_0d, b34304_1d, b34304_2d, l1008192d, l1012288d ++ ([(b34304_1c.getD t46d.toNat ([] : Bs))] : List Bs), l1012304d))
 else (k5 (IntKind.i64.wrap (t46d + (1 : Int)), b34304_0d, b34304_1d, b34304_2d, l1008192d, l1012288d, l1012304d)))
 else (x6 (b34304_0d, b34304_1d, b34304_2d, l1008192d, l1012288d, l1012304d)))
 N (0, b34304_0c, b34304_1c, b34304_2c, l1008192c, l1008224c, l1008208c) (U6 fun b34304_0e b34304_1e b34304_2e l1008192e l1016384e l1016400e =>
 iterG (X := Int × List Bs × List Bs × List (Bs × Bs)) (Y := (List Bs × List Bs × List (Bs × Bs))) (U4 fun t65f l1008192f l1016384f l1020480f k7 x8 =>
 bif decide (t65f < (b34304_2e.length : Int)) then (chk (decide ((0 : Int) ≤ t65f)) <|
 chk (decide (t65f < (b34304_2e.length : Int))) <|
 iterG (X := Bool × Int × Bs × Bs × List Bs × List Bs × List (Bs × Bs)) (Y := (Bool × Bs × Bs × List Bs × List Bs × List (Bs × Bs))) (U7 fun t13g t72g b35840_0g b35840_1g l1008192g l1016384g l1024576g k9 x10 =>
 bif decide (t72g < (l1020480f.length : Int)) then (chk (decide ((0 : Int) ≤ t72g)) <|
 chk (decide (t72g < (l1024576g.length : Int))) <|
 chk (decide (t72g.toNat < l1024576g.length)) <|
 chk (((!t13g) || (!(!t13g)))) <|
 chk (((!t13g) || (!(!t13g)))) <|
 let x80 : Bool := ((b35840_0g == ((l1024576g.getD t72g.toNat (([] : Bs), ([] : Bs))).1)) && ((b35840_1g == ((l1024576g.getD t72g.toNat (([] : Bs), ([] : Bs))).2)) && true))
 chk (bif t13g then true else !t13g) <|
 chk (bif t13g then true else true) <|
 k9 (bif t13g then true else x80, IntKind.i64.wrap (t72g + (1 : Int)), b35840_0g, b35840_1g, l1008192g, l1016384g, l1024576g))
 else (x10 (t13g, b35840_0g, b35840_1g, l1008192g, l1016384g, l1024576g)))
 N (false, 0, (b34304_2e.getD t65f.toNat (([] : Bs), ([] : Bs))).1, (b34304_2e.getD t65f.toNat (([] : Bs), ([] : Bs))).2, l1008192f, l1016384f, l1020480f) (U6 fun t13h b35840_0h b35840_1h l1008192h l1016384h l1028672h =>
 bif !t13h then (chk (decide ((l1028672h.length + 1) * 33 ≤ 140737488355328)) <|
 k7 (IntKind.i64.wrap (t65f + (1 : Int)), l1008192h, l1016384h, l1028672h ++ ([(b35840_0h, b35840_1h)] : List (Bs × Bs))))
 else (k7 (IntKind.i64.wrap (t65f + (1 : Int)), l1008192h, l1016384h, l1028672h))))
 else (x8 (l1008192f, l1016384f, l1020480f)))
 N (0, l1008192e, l1016384e, l1016400e) (U3 fun l1008192i l1016384i l1032768i =>
 k1 (IntKind.i64.wrap (t20a + (1 : Int)), l1032768i, l1016384i, l1008192i)))))
 else (x2 (l1000000a, l1000016a, l1000032a)))
 N (0, ([] : List (Bs × Bs)), ([] : List Bs), ([] : List Bs)) (U3 fun l1036864j l1036880j l1036896j =>
 callO (ref14_CheckBundle N (l1036896j, l1036880j, l1036864j)) fun r94 =>
 bif (r94 != (0 : Int)) then (some ((([] : List Bs), ([] : List Bs), ([] : List (Bs × Bs))), r94))
 else (some ((l1036896j, l1036880j, l1036864j), 0)))

-- certpath/certpathref14.SameStrings
abbrev ref14_SameStrings_O : Type := Bool
def ref14_SameStrings (N : Nat) (p0 : List Bs) (p1 : List Bs) : Option ref14_SameStrings_O :=
 bif ((p0.length : Int) != (p1.length : Int)) then (some false)
 else (iterG (X := Int) (Y := Unit) (fun t13a k1 x2 =>
 bif decide (t13a < (p0.length : Int)) then (chk (decide ((0 : Int) ≤ t13a)) <|
 chk (decide (t13a < (p0.length : Int))) <|
 chk (decide ((0 : Int) ≤ t13a)) <|
 chk (decide (t13a < (p1.length : Int))) <|
 bif !((p0.getD t13a.toNat ([] : Bs)) == (p1.getD t13a.toNat ([] : Bs))) then (some false)
 else (k1 (IntKind.i64.wrap (t13a + (1 : Int)))))
 else (x2 ()))
 N 0 (fun _ =>
 some true))

-- certpath/certpathref14.SameBundle
abbrev ref14_SameBundle_O : Type := Bool
def ref14_SameBundle (N : Nat) (p0 : Yq0) (p1 : Yq0) : Option ref14_SameBundle_O :=
 bif ((p0.2.2.length : Int) != (p1.2.2.length : Int)) then (some false)
 else (iterG (X := Int × List Bs × List Bs × (List (Bs × Bs)) × List Bs × List Bs × List (Bs × Bs)) (Y := (List Bs × List Bs × (List (Bs × Bs)) × List Bs × List Bs × List (Bs × Bs))) (U7 fun t16a b33280_0a b33280_1a b33280_2a b33536_0a b33536_1a b33536_2a k1 x2 =>
 bif decide (t16a < (p0.2.2.length : Int)) then (chk (decide ((0 : Int) ≤ t16a)) <|
 chk (decide (t16a < (b33280_2a.length : Int))) <|
 chk (decide ((0 : Int) ≤ t16a)) <|
 chk (decide (t16a < (b33536_2a.length : Int))) <|
 let x29 : Bool := !((((b33280_2a.getD t16a.toNat (([] : Bs), ([] : Bs))).1) == ((b33536_2a.getD t16a.toNat (([] : Bs), ([] : Bs))).1)) && ((((b33280_2a.getD t16a.toNat (([] : Bs), ([] : Bs))).2) == ((b33536_2a.getD t16a.toNat (([] : Bs), ([] : Bs))).2)) && true))
 bif x29 then (some false)
 else (k1 (IntKind.i64.wrap (t16a + (1 : Int)), b33280_0a, b33280_1a, b33280_2a, b33536_0a, b33536_1a, b33536_2a)))
 else (x2 (b33280_0a, b33280_1a, b33280_2a, b33536_0a, b33536_1a, b33536_2a)))
 N (0, p0.1, p0.2.1, p0.2.2, p1.1, p1.2.1, p1.2.2) (U6 fun b33280_0b b33280_1b b33280_2b b33536_0b b33536_1b b33536_2b =>
 callO (ref14_SameStrings N b33280_0b b33536_0b) fun r35 =>
 chk ((r35 || (!r35))) <|
 chk ((r35 || (!r35))) <|
 chk ((r35 || (!r35))) <|
 chk ((r35 || (!r35))) <|
 chk ((((ref14_SameStrings N b33280_1b b33536_1b).isSome) || (!r35))) <|
 let r41 := (ref14_SameStrings N b33280_1b b33536_1b).getD default
 chk (bif r35 then r35 else true) <|
 chk (bif r35 then true else true) <|
 some (bif r35 then r41 else false)))

-- certpath/certpathlaw20.BundleMerge
abbrev law20_BundleMerge_O : Type := Bool
def law20_BundleMerge (N : Nat) (p0 : Yq0) (p1 : List Int) (p2 : Int) : Option law20_BundleMerge_O :=
 callO (law20_short N p0) fun r19 =>
 bif !r19 then (callO (law20_awake N) fun r21 =>
 some r21)
 else (callO (made_New N p1) fun r23 =>
 callO (law20_made N r23) fun r25 =>
 callO (law20_made N r25.2) fun r27 =>
 iterG (X := Int × List Bs × List Bs × (List (Bs × Bs)) × List Bs × List Bs × (List (Bs × Bs)) × List Bs × List Bs × (List (Bs × Bs)) × List Bs) (Y := (List Bs × List Bs × (List (Bs × Bs)) × List Bs × List Bs × (List (Bs × Bs)) × List Bs × List Bs × (List (Bs × Bs)) × List Bs)) (U11 fun t11a b33536_0a b33536_1a b33536_2a b34816_0a b34816_1a b34816_2a b35072_0a b35072_1a b35072_2a l1000000a k1 x2 =>
 let x34 : Bool := decide (t11a < (IntKind.i64.wrap ((60 : Int) + (IntKind.i64.wrap (p2.tmod 6)))))
 bif x34 then (chk (List.all ([IntKind.u8.wrap t11a] : List Int) isByte) <|
 chk (decide (4 + (List.map byteOf ([IntKind.u8.wrap t11a] : List Int)).length ≤ 140737488355328)) <|
 let x43 : Bs := ([48, 3, 2, 1] : Bs) ++ (List.map byteOf ([IntKind.u8.wrap t11a] : List Int))
 chk (decide ((l1000000a.length + 1) * 17 ≤ 140737488355328)) <|
 k1 (IntKind.i64.wrap (t11a + (1 : Int)), b33536_0a, b33536_1a, b33536_2a, b34816_0a, b34816_1a, b34816_2a, b35072_0a, b35072_1a, b35072_2a, l1000000a ++ ([x43] : List Bs)))
 else (x2 (b33536_0a, b33536_1a, b33536_2a, b34816_0a, b34816_1a, b34816_2a, b35072_0a, b35072_1a, b35072_2a, l1000000a)))
 N (0, p0.1, p0.2.1, p0.2.2, r25.1.1, r25.1.2.1, r25.1.2.2, r27.1.1, r27.1.2.1, r27.1.2.2, ([] : List Bs)) (U10 fun b33536_0b b33536_1b b33536_2b b34816_0b b34816_1b b34816_2b b35072_0b b35072_1b b35072_2b l1004096b =>
 iterG (X := Int × List (List Yq0)) (Y := Unit) (U2 fun t63c l48384c k3 x4 =>
 bif decide (t63c < (5 : Int)) then (chk (decide ((0 : Int) ≤ t63c)) <|
 chk (decide (t63c < (l48384c.length : Int))) <|
 chk (decide (t63c.toNat < l48384c.length)) <|
 callO (bundle_Merge N (l48384c.getD t63c.toNat ([] : List Yq0))) fun r69 =>
 callO (ref14_Merge N (l48384c.getD t63c.toNat ([] : List Yq0))) fun r74 =>
 chk (((!(r69.2 != r74.2)) || (!(!(r69.2 != r74.2))))) <|
 chk (((!(r69.2 != r74.2)) || (!(!(r69.2 != r74.2))))) <|
 chk ((((ref14_SameBundle N r69.1 r74.1).isSome) || (!(!(r69.2 != r74.2))))) <|
 let r83 := (ref14_SameBundle N r69.1 r74.1).getD default
 chk (((!(r69.2 != r74.2)) || (!(!(r69.2 != r74.2))))) <|
 chk (bif (r69.2 != r74.2) then true else !(r69.2 != r74.2)) <|
 chk (bif (r69.2 != r74.2) then true else true) <|
 bif bif (r69.2 != r74.2) then true else !r83 then (some false)
 else (k3 (IntKind.i64.wrap (t63c + (1 : Int)), l48384c)))
 else (x4 ()))
 N (0, ([([(b33536_0b, b33536_1b, b33536_2b), (b34816_0b, b34816_1b, b34816_2b)] : List Yq0), ([(b34816_0b, b34816_1b, b34816_2b), (b35072_0b, b35072_1b, b35072_2b), (b34816_0b, b34816_1b, b34816_2b)] : List Yq0), ([] : List Yq0), ([(b34816_0b, b34816_1b, b34816_2b), (l1004096b, ([] : List Bs), ([] : List (Bs × Bs)))] : List Yq0), ([(b33536_0b, b33536_1b, b33536_2b), (b33536_0b, b33536_1b, b33536_2b)] : List Yq0)] : List (List Yq0))) (fun _ =>
 callO (law20_awake N) fun r87 =>
 some r87)))

end Go.Proofs.YtnllccjmbijjlaaGreat.Vm

/-
  The functions of the program compute what is printed of them.
-/
namespace Go.Proofs.YtnllccjmbijjlaaGreat.Vm
open Go.Proofs
def made_Few_ns : List (Nat × Nrm) := [(3, ⟨[], [], [], [], []⟩), (18, ⟨[2, 13, 14, 15], [], [], [], []⟩)]
def made_Few_L : Lk := ⟨[], [(18, ⟨[(2, .i), (13, .i), (14, .i), (15, .c x64)], []⟩, [(0, ⟨[], []⟩)])]⟩
noncomputable def made_Few_S (N : Nat) : Sig := .of [Sq0, .cell false (.int .i64), .cell false (.int .i64)] [.cell false .bool] (fun a => made_Few N a.1 a.2.1 a.2.2)
theorem made_Few_spec (N : Nat) : Spec Tryz.prog 11 (made_Few_S N) := spec_of_exe (C := ctx Tryz.prog [] made_Few_ns) (L := made_Few_L) (fn := Tryz.f11) (N := N) (ctx_ok trivial) (by kernel_rfl) (by kernel_rfl) (fun a => by kernel_rfl)

noncomputable def tlv_least_S (N : Nat) : Sig := .of [.cell false (.int .i64)] [.cell false (.int .i64)] (fun a => tlv_least N a)
theorem tlv_least_spec (N : Nat) : Spec Tryz.prog 85 (tlv_least_S N) := spec_of_exe (C := ctx Tryz.prog [] []) (L := ⟨[], []⟩) (fn := Tryz.f85) (N := N) (ctx_ok trivial) (by kernel_rfl) (by kernel_rfl) (fun a => by kernel_rfl)

noncomputable def der_Writer_Take_S (N : Nat) : Sig := .of [.box [(false, .bool)], .cell false .str, .cell false (.int .i64)] [.cell false .str] (fun a => der_Writer_Take N a.1 a.2.1 a.2.2)
theorem der_Writer_Take_spec (N : Nat) : Spec Tryz.prog 55 (der_Writer_Take_S N) := spec_of_exe (C := ctx Tryz.prog [] []) (L := ⟨[], []⟩) (fn := Tryz.f55) (N := N) (ctx_ok trivial) (by kernel_rfl) (by kernel_rfl) (fun a => by kernel_rfl)

def tlv_Wrap_ns : List (Nat × Nrm) := [(3, ⟨[0, 1, 6], [], [], [], []⟩), (22, ⟨[0, 1, 6, 21, 22, 23], [], [], [], []⟩), (77, ⟨[1, 9], [], [], [(45568, 1008192), (47616, 1008192), (49664, 1008192), (52480, 1008192)], []⟩)]
def tlv_Wrap_L : Lk := ⟨[(77, ⟨[(1, .i), (9, .c (xo 1008192))], [(1008192, .arr 5 false (.int .u8 .nil))]⟩)], [(22, ⟨[(0, .i), (1, .i), (6, .c x64), (21, .i), (22, .i), (23, .c x64)], []⟩, [(0, ⟨[(0, .i), (1, .i), (6, .c x64)], []⟩)])]⟩
noncomputable def tlv_Wrap_S (N : Nat) : Sig := .of [.cell false (.int .i64), Sq0] [.cell false .str, .cell false (.int .i64)] (fun a => tlv_Wrap N a.1 a.2)
theorem tlv_Wrap_spec (N : Nat) : Spec Tryz.prog 56 (tlv_Wrap_S N) := spec_of_exe (C := ctx Tryz.prog [(84, strings_Join_S N)] tlv_Wrap_ns) (L := tlv_Wrap_L) (fn := Tryz.f56) (N := N) (ctx_ok ⟨strings_Join_spec N, trivial⟩) (by kernel_rfl) (by kernel_rfl) (fun a => by kernel_rfl)

noncomputable def der_Writer_Bad_S (N : Nat) : Sig := .of [.box [(false, .bool)]] [.cell false .bool] (fun a => der_Writer_Bad N a)
theorem der_Writer_Bad_spec (N : Nat) : Spec Tryz.prog 24 (der_Writer_Bad_S N) := spec_of_exe (C := ctx Tryz.prog [] []) (L := ⟨[], []⟩) (fn := Tryz.f24) (N := N) (ctx_ok trivial) (by kernel_rfl) (by kernel_rfl) (fun a => by kernel_rfl)

noncomputable def der_Reader_Has_S (N : Nat) : Sig := .of [Sq4, .cell false (.int .i64)] [Sq2, .cell false .bool] (fun a => der_Reader_Has N a.1 a.2)
theorem der_Reader_Has_spec (N : Nat) : Spec Tryz.prog 39 (der_Reader_Has_S N) := spec_of_exe (C := ctx Tryz.prog [] []) (L := ⟨[], []⟩) (fn := Tryz.f39) (N := N) (ctx_ok trivial) (by kernel_rfl) (by kernel_rfl) (fun a => by kernel_rfl)

noncomputable def der_Reader_Done_S (N : Nat) : Sig := .of [Sq4] [.cell false (.int .i64)] (fun a => der_Reader_Done N a)
theorem der_Reader_Done_spec (N : Nat) : Spec Tryz.prog 28 (der_Reader_Done_S N) := spec_of_exe (C := ctx Tryz.prog [] []) (L := ⟨[], []⟩) (fn := Tryz.f28) (N := N) (ctx_ok trivial) (by kernel_rfl) (by kernel_rfl) (fun a => by kernel_rfl)

noncomputable def made_New_S (N : Nat) : Sig := .of [Sq5] [Sq6] (fun a => made_New N a)
theorem made_New_spec (N : Nat) : Spec Tryz.prog 6 (made_New_S N) := spec_of_exe (C := ctx Tryz.prog [] []) (L := ⟨[], []⟩) (fn := Tryz.f6) (N := N) (ctx_ok trivial) (by kernel_rfl) (by kernel_rfl) (fun a => by kernel_rfl)

end Go.Proofs.YtnllccjmbijjlaaGreat.Vm

/-
  The functions of the program compute what is printed of them.
-/
namespace Go.Proofs.YtnllccjmbijjlaaGreat.Vm
open Go.Proofs
noncomputable def made_Deck_Next_S (N : Nat) : Sig := .of [Sq6, .cell false (.int .i64)] [.cell false (.int .i64)] (fun a => made_Deck_Next N a.1 a.2)
theorem made_Deck_Next_spec (N : Nat) : Spec Tryz.prog 14 (made_Deck_Next_S N) := spec_of_exe (C := ctx Tryz.prog [] []) (L := ⟨[], []⟩) (fn := Tryz.f14) (N := N) (ctx_ok trivial) (by kernel_rfl) (by kernel_rfl) (fun a => by kernel_rfl)

def ref01_arcs_ns : List (Nat × Nrm) := [(3, ⟨[4], [([4], 3, (.int .i64 .nil), 1012288)], [], [(1000000, 1012288)], []⟩), (11, ⟨[0, 4, 6, 8], [([4], 3, (.int .i64 .nil), 1008192)], [], [(1004096, 1008192)], []⟩), (18, ⟨[0, 4, 5, 6], [([4], 3, (.int .i64 .nil), 1000000)], [], [(53760, 1000000)], []⟩), (58, ⟨[0, 4, 6, 7, 8, 9], [([4], 3, (.int .i64 .nil), 1004096)], [], [(1000000, 1004096)], []⟩)]
def ref01_arcs_L : Lk := ⟨[], [(18, ⟨[(0, .i), (4, .c (xo 1000000)), (5, .c x64), (6, .c x64)], [(1000000, .arr 3 false (.int .i64 .nil))]⟩, [(0, ⟨[(4, .c (xo 1012288))], [(1012288, .arr 3 false (.int .i64 .nil))]⟩)]), (58, ⟨[(0, .i), (4, .c (xo 1004096)), (6, .i), (7, .i), (8, .c x64), (9, .c x64)], [(1004096, .arr 3 false (.int .i64 .nil))]⟩, [(2, ⟨[(0, .i), (4, .c (xo 1008192)), (6, .i), (8, .c x64)], [(1008192, .arr 3 false (.int .i64 .nil))]⟩)])]⟩
noncomputable def ref01_arcs_S (N : Nat) : Sig := .of [.cell false .str] [Sq5, .cell false .bool] (fun a => ref01_arcs N a)
theorem ref01_arcs_spec (N : Nat) : Spec Tryz.prog 145 (ref01_arcs_S N) := spec_of_exe (C := ctx Tryz.prog [] ref01_arcs_ns) (L := ref01_arcs_L) (fn := Tryz.f145) (N := N) (ctx_ok trivial) (by kernel_rfl) (by kernel_rfl) (fun a => by kernel_rfl)

def ref01_utf8_ns : List (Nat × Nrm) := [(3, ⟨[], [], [], [], []⟩), (10, ⟨[0, 3], [], [], [], []⟩), (15, ⟨[0, 3, 5, 6, 7], [], [], [], []⟩), (65, ⟨[0, 3, 4, 5, 6], [], [], [], []⟩), (82, ⟨[0, 3, 5, 6, 7, 8], [], [], [], []⟩)]
def ref01_utf8_L : Lk := ⟨[(65, ⟨[(0, .i), (3, .c x64), (4, .i), (5, .c x64), (6, .c x64)], []⟩)], [(10, ⟨[(0, .i), (3, .c x64)], []⟩, [(0, ⟨[], []⟩)]), (82, ⟨[(0, .i), (3, .i), (5, .i), (6, .i), (7, .c x64), (8, .c x64)], []⟩, [(3, ⟨[(0, .i), (3, .i), (5, .i), (6, .i), (7, .c x64)], []⟩)])]⟩
noncomputable def ref01_utf8_S (N : Nat) : Sig := .of [.cell false .str] [.cell false .bool] (fun a => ref01_utf8 N a)
theorem ref01_utf8_spec (N : Nat) : Spec Tryz.prog 151 (ref01_utf8_S N) := spec_of_exe (C := ctx Tryz.prog [] ref01_utf8_ns) (L := ref01_utf8_L) (fn := Tryz.f151) (N := N) (ctx_ok trivial) (by kernel_rfl) (by kernel_rfl) (fun a => by kernel_rfl)

noncomputable def ref01_Alnum_S (N : Nat) : Sig := .of [.cell false (.int .u8)] [.cell false .bool] (fun a => ref01_Alnum N a)
theorem ref01_Alnum_spec (N : Nat) : Spec Tryz.prog 152 (ref01_Alnum_S N) := spec_of_exe (C := ctx Tryz.prog [] []) (L := ⟨[], []⟩) (fn := Tryz.f152) (N := N) (ctx_ok trivial) (by kernel_rfl) (by kernel_rfl) (fun a => by kernel_rfl)

def ref01_Among_ns : List (Nat × Nrm) := [(3, ⟨[], [], [], [], []⟩), (10, ⟨[0, 1, 5], [], [], [], []⟩)]
def ref01_Among_L : Lk := ⟨[], [(10, ⟨[(0, .i), (1, .i), (5, .c x64)], []⟩, [(0, ⟨[], []⟩)])]⟩
noncomputable def ref01_Among_S (N : Nat) : Sig := .of [.cell false (.int .u8), .cell false .str] [.cell false .bool] (fun a => ref01_Among N a.1 a.2)
theorem ref01_Among_spec (N : Nat) : Spec Tryz.prog 153 (ref01_Among_S N) := spec_of_exe (C := ctx Tryz.prog [] ref01_Among_ns) (L := ref01_Among_L) (fn := Tryz.f153) (N := N) (ctx_ok trivial) (by kernel_rfl) (by kernel_rfl) (fun a => by kernel_rfl)

noncomputable def ref14_zeroScope_S (N : Nat) : Sig := .of [Sq8] [.cell false .bool] (fun a => ref14_zeroScope N a)
theorem ref14_zeroScope_spec (N : Nat) : Spec Tryz.prog 117 (ref14_zeroScope_S N) := spec_of_exe (C := ctx Tryz.prog [] []) (L := ⟨[], []⟩) (fn := Tryz.f117) (N := N) (ctx_ok trivial) (by kernel_rfl) (by kernel_rfl) (fun a => by kernel_rfl)

def ref07_Split_ns : List (Nat × Nrm) := [(3, ⟨[5], [([5], 9, (.str .nil), 1004096)], [], [(1000000, 1004096)], []⟩), (18, ⟨[0, 1, 5, 6, 7], [([5], 9, (.str .nil), 1000000)], [], [(40704, 1000000)], []⟩)]
def ref07_Split_L : Lk := ⟨[], [(18, ⟨[(0, .i), (1, .i), (5, .c (xo 1000000)), (6, .c x64), (7, .c x64)], [(1000000, .arr 9 false (.str .nil))]⟩, [(0, ⟨[(5, .c (xo 1004096))], [(1004096, .arr 9 false (.str .nil))]⟩)])]⟩
noncomputable def ref07_Split_S (N : Nat) : Sig := .of [.cell false .str, .cell false (.int .u8)] [Sq0] (fun a => ref07_Split N a.1 a.2)
theorem ref07_Split_spec (N : Nat) : Spec Tryz.prog 163 (ref07_Split_S N) := spec_of_exe (C := ctx Tryz.prog [] ref07_Split_ns) (L := ref07_Split_L) (fn := Tryz.f163) (N := N) (ctx_ok trivial) (by kernel_rfl) (by kernel_rfl) (fun a => by kernel_rfl)

def ref07_Range_ns : List (Nat × Nrm) := [(3, ⟨[], [], [], [], []⟩), (26, ⟨[0, 3, 4, 5], [], [], [], []⟩)]
def ref07_Range_L : Lk := ⟨[], [(26, ⟨[(0, .i), (3, .i), (4, .c xb), (5, .c x64)], []⟩, [(0, ⟨[], []⟩)])]⟩
noncomputable def ref07_Range_S (N : Nat) : Sig := .of [.cell false .str] [.cell false .bool] (fun a => ref07_Range N a)
theorem ref07_Range_spec (N : Nat) : Spec Tryz.prog 158 (ref07_Range_S N) := spec_of_exe (C := ctx Tryz.prog [] ref07_Range_ns) (L := ref07_Range_L) (fn := Tryz.f158) (N := N) (ctx_ok trivial) (by kernel_rfl) (by kernel_rfl) (fun a => by kernel_rfl)

end Go.Proofs.YtnllccjmbijjlaaGreat.Vm

/-
  The functions of the program compute what is printed of them.
-/
namespace Go.Proofs.YtnllccjmbijjlaaGreat.Vm
open Go.Proofs
noncomputable def ref07_Address_S (N : Nat) : Sig := .of [.cell false .str] [.cell false .bool] (fun a => ref07_Address N a)
theorem ref07_Address_spec (N : Nat) : Spec Tryz.prog 159 (ref07_Address_S N) := spec_of_exe (C := ctx Tryz.prog [] []) (L := ⟨[], []⟩) (fn := Tryz.f159) (N := N) (ctx_ok trivial) (by kernel_rfl) (by kernel_rfl) (fun a => by kernel_rfl)

def ref01_Lower_ns : List (Nat × Nrm) := [(3, ⟨[3], [], [], [], []⟩), (14, ⟨[3, 8, 9], [], [], [], []⟩)]
def ref01_Lower_L : Lk := ⟨[], [(14, ⟨[(3, .c (xo 34304)), (8, .i), (9, .c x64)], [(34304, .arr 5 false (.int .u8 .nil))]⟩, [(0, ⟨[(3, .c (xo 34304))], [(34304, .arr 5 false (.int .u8 .nil))]⟩)])]⟩
noncomputable def ref01_Lower_S (N : Nat) : Sig := .of [.cell false .str] [.cell false .str] (fun a => ref01_Lower N a)
theorem ref01_Lower_spec (N : Nat) : Spec Tryz.prog 165 (ref01_Lower_S N) := spec_of_exe (C := ctx Tryz.prog [] ref01_Lower_ns) (L := ref01_Lower_L) (fn := Tryz.f165) (N := N) (ctx_ok trivial) (by kernel_rfl) (by kernel_rfl) (fun a => by kernel_rfl)

noncomputable def ref14_reason_S (N : Nat) : Sig := .of [.cell false (.int .i64)] [.cell false .bool] (fun a => ref14_reason N a)
theorem ref14_reason_spec (N : Nat) : Spec Tryz.prog 119 (ref14_reason_S N) := spec_of_exe (C := ctx Tryz.prog [] []) (L := ⟨[], []⟩) (fn := Tryz.f119) (N := N) (ctx_ok trivial) (by kernel_rfl) (by kernel_rfl) (fun a => by kernel_rfl)

def ref01_Wrap_ns : List (Nat × Nrm) := [(3, ⟨[0, 6], [], [], [], []⟩), (22, ⟨[0, 6, 22, 23, 24], [], [], [], []⟩), (77, ⟨[6, 10], [], [], [(43008, 1008192), (46592, 1008192), (49408, 1008192), (51456, 1008192)], []⟩)]
def ref01_Wrap_L : Lk := ⟨[(77, ⟨[(6, .i), (10, .c (xo 1008192))], [(1008192, .arr 5 false (.int .u8 .nil))]⟩)], [(22, ⟨[(0, .i), (6, .c xs), (22, .i), (23, .i), (24, .c x64)], []⟩, [(0, ⟨[(0, .i), (6, .c xs)], []⟩)])]⟩
noncomputable def ref01_Wrap_S (N : Nat) : Sig := .of [.cell false (.int .i64), Sq0] [.cell false .str, .cell false (.int .i64)] (fun a => ref01_Wrap N a.1 a.2)
theorem ref01_Wrap_spec (N : Nat) : Spec Tryz.prog 94 (ref01_Wrap_S N) := spec_of_exe (C := ctx Tryz.prog [] ref01_Wrap_ns) (L := ref01_Wrap_L) (fn := Tryz.f94) (N := N) (ctx_ok trivial) (by kernel_rfl) (by kernel_rfl) (fun a => by kernel_rfl)

def ref01_Order_ns : List (Nat × Nrm) := [(3, ⟨[3], [([3], 9, (.str .nil), 1012288)], [], [(1000000, 1012288)], []⟩), (11, ⟨[3, 5, 6, 10, 11, 12], [([3], 9, (.str .nil), 1008192)], [], [(1004096, 1008192)], [1008192]⟩), (14, ⟨[3, 10, 11, 12], [([3], 9, (.str .nil), 1000000)], [], [(43008, 1000000)], []⟩), (19, ⟨[7], [], [], [], []⟩), (26, ⟨[3, 5, 6, 10, 11, 12], [([3], 9, (.str .nil), 1004096)], [], [(1000000, 1004096)], []⟩), (50, ⟨[7, 42, 43, 44], [], [], [], []⟩)]
def ref01_Order_L : Lk := ⟨[], [(14, ⟨[(3, .c (xo 1000000)), (10, .i), (11, .i), (12, .c x64)], [(1000000, .arr 9 false (.str .nil))]⟩, [(0, ⟨[(3, .c (xo 1012288))], [(1012288, .arr 9 false (.str .nil))]⟩)]), (26, ⟨[(3, .c (xo 1004096)), (5, .i), (6, .c x64), (10, .i), (11, .i), (12, .i)], [(1004096, .arr 9 false (.str .nil))]⟩, [(2, ⟨[(3, .c (xo 1008192)), (5, .i), (6, .c x64), (10, .i), (11, .i), (12, .i)], [(1008192, .arr 9 true (.str .nil))]⟩)]), (50, ⟨[(7, .c xs), (42, .c (xo 1012288)), (43, .i), (44, .c x64)], [(1012288, .arr 9 false (.str .nil))]⟩, [(4, ⟨[(7, .c xs)], []⟩)])]⟩
noncomputable def ref01_Order_S (N : Nat) : Sig := .of [Sq0] [.cell false .str] (fun a => ref01_Order N a)
theorem ref01_Order_spec (N : Nat) : Spec Tryz.prog 90 (ref01_Order_S N) := spec_of_exe (C := ctx Tryz.prog [] ref01_Order_ns) (L := ref01_Order_L) (fn := Tryz.f90) (N := N) (ctx_ok trivial) (by kernel_rfl) (by kernel_rfl) (fun a => by kernel_rfl)

noncomputable def ref01_before_S (N : Nat) : Sig := .of [.cell false (.int .i64)] [.cell false (.int .i64)] (fun a => ref01_before N a)
theorem ref01_before_spec (N : Nat) : Spec Tryz.prog 120 (ref01_before_S N) := spec_of_exe (C := ctx Tryz.prog [] []) (L := ⟨[], []⟩) (fn := Tryz.f120) (N := N) (ctx_ok trivial) (by kernel_rfl) (by kernel_rfl) (fun a => by kernel_rfl)

noncomputable def ref01_days_S (N : Nat) : Sig := .of [.cell false (.int .i64), .cell false (.int .i64)] [.cell false (.int .i64)] (fun a => ref01_days N a.1 a.2)
theorem ref01_days_spec (N : Nat) : Spec Tryz.prog 121 (ref01_days_S N) := spec_of_exe (C := ctx Tryz.prog [] []) (L := ⟨[], []⟩) (fn := Tryz.f121) (N := N) (ctx_ok trivial) (by kernel_rfl) (by kernel_rfl) (fun a => by kernel_rfl)

noncomputable def ref01_Dec_Sn (N n : Nat) : Sig := .of [.cell false (.int .i64)] [.cell false .str] (fun a => ref01_Dec N n a)
theorem ref01_Dec_specn (N : Nat) : ∀ n, Spec Tryz.prog 69 (ref01_Dec_Sn N n)
  | 0 => spec_none (C := ctx Tryz.prog [] []) (fn := Tryz.f69) (ctx_ok (gs := []) trivial) (by kernel_rfl) (by kernel_rfl)
  | n + 1 => spec_of_exe (C := ctx Tryz.prog ((69, ref01_Dec_Sn N n) :: []) []) (L := ⟨[], []⟩) (fn := Tryz.f69) (N := N) (ctx_ok ⟨ref01_Dec_specn N n, trivial⟩) (by kernel_rfl) (by kernel_rfl) (fun a => by kernel_rfl)
noncomputable def ref01_Dec_S (N : Nat) : Sig := ref01_Dec_Sn N N
theorem ref01_Dec_spec (N : Nat) : Spec Tryz.prog 69 (ref01_Dec_S N) := ref01_Dec_specn N N

end Go.Proofs.YtnllccjmbijjlaaGreat.Vm

/-
  The functions of the program compute what is printed of them.
-/
namespace Go.Proofs.YtnllccjmbijjlaaGreat.Vm
open Go.Proofs
def law20_short_ns : List (Nat × Nrm) := [(3, ⟨[1], [], [], [], []⟩), (18, ⟨[1, 10, 11, 12], [], [], [], []⟩)]
def law20_short_L : Lk := ⟨[], [(18, ⟨[(1, .c (.c (.ptr 33024 0))), (10, .i), (11, .i), (12, .c x64)], [(33024, .box [(xl (.str .nil)), (xl (.str .nil)), (xl (.str (.str .nil)))])]⟩, [(0, ⟨[(1, .c (.c (.ptr 33024 0)))], [(33024, .box [(xl (.str .nil)), (xl (.str .nil)), (xl (.str (.str .nil)))])]⟩)])]⟩
noncomputable def law20_short_S (N : Nat) : Sig := .of [Sq1] [.cell false .bool] (fun a => law20_short N a)
theorem law20_short_spec (N : Nat) : Spec Tryz.prog 4 (law20_short_S N) := spec_of_exe (C := ctx Tryz.prog [(11, made_Few_S N)] law20_short_ns) (L := law20_short_L) (fn := Tryz.f4) (N := N) (ctx_ok ⟨made_Few_spec N, trivial⟩) (by kernel_rfl) (by kernel_rfl) (fun a => by kernel_rfl)

def tlv_Read_ns : List (Nat × Nrm) := [(3, ⟨[0, 2, 5, 6, 7, 8, 9], [], [], [], []⟩), (74, ⟨[0, 2, 5, 6, 7, 8, 9, 50, 51, 52], [], [], [], []⟩), (101, ⟨[0, 2, 5, 6, 7, 8], [], [], [], []⟩)]
def tlv_Read_L : Lk := ⟨[(101, ⟨[(0, .i), (2, .c (.c (.ptr 33280 0))), (5, .c (.c (.ptr 34048 0))), (6, .i), (7, .c x64), (8, .c x64)], [(33280, .box [(.c (.int .i64 0)), (.c (.str ([] : Bs))), (.c (.str ([] : Bs)))]), (34048, .box [(.c (.int .i64 0)), (.c (.str ([] : Bs))), (.c (.str ([] : Bs)))])]⟩)], [(74, ⟨[(0, .i), (2, .c (.c (.ptr 33280 0))), (5, .c (.c (.ptr 34048 0))), (6, .i), (7, .c x64), (8, .i), (9, .i), (50, .c (xo 45568)), (51, .i), (52, .c x64)], [(33280, .box [(.c (.int .i64 0)), (.c (.str ([] : Bs))), (.c (.str ([] : Bs)))]), (34048, .box [(.c (.int .i64 0)), (.c (.str ([] : Bs))), (.c (.str ([] : Bs)))]), (45568, .arr 5 false (.int .u8 .nil))]⟩, [(0, ⟨[(0, .i), (2, .c (.c (.ptr 33280 0))), (5, .c (.c (.ptr 34048 0))), (6, .i), (7, .c x64), (8, .i), (9, .i)], [(33280, .box [(.c (.int .i64 0)), (.c (.str ([] : Bs))), (.c (.str ([] : Bs)))]), (34048, .box [(.c (.int .i64 0)), (.c (.str ([] : Bs))), (.c (.str ([] : Bs)))])]⟩)])]⟩
noncomputable def tlv_Read_S (N : Nat) : Sig := .of [.cell false .str] [Sq2, .cell false .str, .cell false (.int .i64)] (fun a => tlv_Read N a)
theorem tlv_Read_spec (N : Nat) : Spec Tryz.prog 58 (tlv_Read_S N) := spec_of_exe (C := ctx Tryz.prog [(85, tlv_least_S N)] tlv_Read_ns) (L := tlv_Read_L) (fn := Tryz.f58) (N := N) (ctx_ok ⟨tlv_least_spec N, trivial⟩) (by kernel_rfl) (by kernel_rfl) (fun a => by kernel_rfl)

noncomputable def der_Writer_Wrap_S (N : Nat) : Sig := .of [.box [(false, .bool)], .cell false (.int .i64), Sq0] [.cell false .str] (fun a => der_Writer_Wrap N a.1 a.2.1 a.2.2)
theorem der_Writer_Wrap_spec (N : Nat) : Spec Tryz.prog 36 (der_Writer_Wrap_S N) := spec_of_exe (C := ctx Tryz.prog [(56, tlv_Wrap_S N), (55, der_Writer_Take_S N)] []) (L := ⟨[], []⟩) (fn := Tryz.f36) (N := N) (ctx_ok ⟨tlv_Wrap_spec N, der_Writer_Take_spec N, trivial⟩) (by kernel_rfl) (by kernel_rfl) (fun a => by kernel_rfl)

noncomputable def ref01_ValidOID_S (N : Nat) : Sig := .of [.cell false .str] [.cell false .bool] (fun a => ref01_ValidOID N a)
theorem ref01_ValidOID_spec (N : Nat) : Spec Tryz.prog 133 (ref01_ValidOID_S N) := spec_of_exe (C := ctx Tryz.prog [(145, ref01_arcs_S N)] []) (L := ⟨[], []⟩) (fn := Tryz.f133) (N := N) (ctx_ok ⟨ref01_arcs_spec N, trivial⟩) (by kernel_rfl) (by kernel_rfl) (fun a => by kernel_rfl)

def ref01_ValidText_ns : List (Nat × Nrm) := [(7, ⟨[], [], [], [], []⟩), (25, ⟨[0, 1, 11], [], [], [], []⟩), (30, ⟨[0, 1, 5], [], [], [], []⟩)]
def ref01_ValidText_L : Lk := ⟨[(25, ⟨[(0, .i), (1, .i), (11, .c xb)], []⟩)], [(30, ⟨[(0, .i), (1, .i), (5, .c x64)], []⟩, [(1, ⟨[], []⟩)])]⟩
noncomputable def ref01_ValidText_S (N : Nat) : Sig := .of [.cell false (.int .i64), .cell false .str] [.cell false .bool] (fun a => ref01_ValidText N a.1 a.2)
theorem ref01_ValidText_spec (N : Nat) : Spec Tryz.prog 141 (ref01_ValidText_S N) := spec_of_exe (C := ctx Tryz.prog [(151, ref01_utf8_S N), (152, ref01_Alnum_S N), (153, ref01_Among_S N)] ref01_ValidText_ns) (L := ref01_ValidText_L) (fn := Tryz.f141) (N := N) (ctx_ok ⟨ref01_utf8_spec N, ref01_Alnum_spec N, ref01_Among_spec N, trivial⟩) (by kernel_rfl) (by kernel_rfl) (fun a => by kernel_rfl)

def ref07_DNS_ns : List (Nat × Nrm) := [(3, ⟨[], [], [], [], []⟩), (11, ⟨[10, 11, 12], [], [], [], []⟩), (18, ⟨[10, 11, 12], [], [], [], []⟩), (38, ⟨[4, 5, 10, 11, 12], [], [], [], []⟩)]
def ref07_DNS_L : Lk := ⟨[], [(18, ⟨[(10, .i), (11, .i), (12, .c x64)], []⟩, [(0, ⟨[], []⟩)]), (38, ⟨[(4, .i), (5, .c x64), (10, .i), (11, .i), (12, .i)], []⟩, [(2, ⟨[(10, .i), (11, .i), (12, .i)], []⟩)])]⟩
noncomputable def ref07_DNS_S (N : Nat) : Sig := .of [.cell false .str] [.cell false .bool] (fun a => ref07_DNS N a)
theorem ref07_DNS_spec (N : Nat) : Spec Tryz.prog 161 (ref07_DNS_S N) := spec_of_exe (C := ctx Tryz.prog [(163, ref07_Split_S N), (152, ref01_Alnum_S N)] ref07_DNS_ns) (L := ref07_DNS_L) (fn := Tryz.f161) (N := N) (ctx_ok ⟨ref07_Split_spec N, ref01_Alnum_spec N, trivial⟩) (by kernel_rfl) (by kernel_rfl) (fun a => by kernel_rfl)

def ref01_Fold_ns : List (Nat × Nrm) := [(3, ⟨[3], [([3], 5, (.int .u8 .nil), 1004096)], [], [(1000000, 1004096)], []⟩), (18, ⟨[0, 3, 4], [([3], 5, (.int .u8 .nil), 1000000)], [], [(41984, 1000000)], []⟩)]
def ref01_Fold_L : Lk := ⟨[], [(18, ⟨[(0, .i), (3, .c (xo 1000000)), (4, .c x64)], [(1000000, .arr 5 false (.int .u8 .nil))]⟩, [(0, ⟨[(3, .c (xo 1004096))], [(1004096, .arr 5 false (.int .u8 .nil))]⟩)])]⟩
noncomputable def ref01_Fold_S (N : Nat) : Sig := .of [.cell false .str] [.cell false .str] (fun a => ref01_Fold N a)
theorem ref01_Fold_spec (N : Nat) : Spec Tryz.prog 164 (ref01_Fold_S N) := spec_of_exe (C := ctx Tryz.prog [(165, ref01_Lower_S N)] ref01_Fold_ns) (L := ref01_Fold_L) (fn := Tryz.f164) (N := N) (ctx_ok ⟨ref01_Lower_spec N, trivial⟩) (by kernel_rfl) (by kernel_rfl) (fun a => by kernel_rfl)

noncomputable def ref07_Wrap_S (N : Nat) : Sig := .of [.cell false (.int .i64), Sq0] [.cell false .str] (fun a => ref07_Wrap N a.1 a.2)
theorem ref07_Wrap_spec (N : Nat) : Spec Tryz.prog 74 (ref07_Wrap_S N) := spec_of_exe (C := ctx Tryz.prog [(94, ref01_Wrap_S N)] []) (L := ⟨[], []⟩) (fn := Tryz.f74) (N := N) (ctx_ok ⟨ref01_Wrap_spec N, trivial⟩) (by kernel_rfl) (by kernel_rfl) (fun a => by kernel_rfl)

end Go.Proofs.YtnllccjmbijjlaaGreat.Vm

/-
  The functions of the program compute what is printed of them.
-/
namespace Go.Proofs.YtnllccjmbijjlaaGreat.Vm
open Go.Proofs
noncomputable def ref14_known_S (N : Nat) : Sig := .of [] [Sq0] (fun _ => ref14_known N)
theorem ref14_known_spec (N : Nat) : Spec Tryz.prog 147 (ref14_known_S N) := spec_of_exe (C := ctx Tryz.prog [] []) (L := ⟨[], []⟩) (fn := Tryz.f147) (N := N) (ctx_ok trivial) (by kernel_rfl) (by kernel_rfl) (fun a => by kernel_rfl)

noncomputable def ref11_B1_S (N : Nat) : Sig := .of [.cell false (.int .i64)] [.cell false .str] (fun a => ref11_B1 N a)
theorem ref11_B1_spec (N : Nat) : Spec Tryz.prog 136 (ref11_B1_S N) := spec_of_exe (C := ctx Tryz.prog [] []) (L := ⟨[], []⟩) (fn := Tryz.f136) (N := N) (ctx_ok trivial) (by kernel_rfl) (by kernel_rfl) (fun a => by kernel_rfl)

def ref01_round_ns : List (Nat × Nrm) := [(3, ⟨[0, 5, 6], [], [], [], []⟩), (11, ⟨[0, 5, 6], [], [], [], []⟩), (18, ⟨[0, 1, 5, 6, 7], [], [], [], []⟩), (19, ⟨[0, 13, 14, 15, 16, 17, 18, 19, 20], [], [], [], []⟩), (34, ⟨[0, 5, 6, 8], [], [], [], []⟩), (66, ⟨[0, 5, 6, 13, 14, 15, 16, 17, 18, 19, 20, 21], [], [], [], []⟩)]
def ref01_round_L : Lk := ⟨[], [(18, ⟨[(0, .i), (1, .i), (5, .c (xo 39424)), (6, .c (.c (.oelt 34304 0 0))), (7, .c x64)], [(34304, .arr 223 false (.int .u32 .nil)), (39424, .arr 210 false (.int .u32 .nil))]⟩, [(0, ⟨[(0, .i), (5, .c (xo 39424)), (6, .c (.c (.oelt 34304 0 0)))], [(34304, .arr 223 false (.int .u32 .nil)), (39424, .arr 210 false (.int .u32 .nil))]⟩)]), (34, ⟨[(0, .i), (5, .c (xo 39424)), (6, .c (.c (.oelt 34304 0 0))), (8, .c x64)], [(34304, .arr 223 false (.int .u32 .nil)), (39424, .arr 210 false (.int .u32 .nil))]⟩, [(2, ⟨[(0, .i), (5, .c (xo 39424)), (6, .c (.c (.oelt 34304 0 0)))], [(34304, .arr 223 false (.int .u32 .nil)), (39424, .arr 210 false (.int .u32 .nil))]⟩)]), (66, ⟨[(0, .i), (5, .c (xo 39424)), (6, .c (.c (.oelt 34304 0 0))), (13, .c (xi .u32)), (14, .c (xi .u32)), (15, .c (xi .u32)), (16, .c (xi .u32)), (17, .c (xi .u32)), (18, .c (xi .u32)), (19, .c (xi .u32)), (20, .c (xi .u32)), (21, .c x64)], [(34304, .arr 223 false (.int .u32 .nil)), (39424, .arr 210 false (.int .u32 .nil))]⟩, [(4, ⟨[(0, .i), (13, .c (xi .u32)), (14, .c (xi .u32)), (15, .c (xi .u32)), (16, .c (xi .u32)), (17, .c (xi .u32)), (18, .c (xi .u32)), (19, .c (xi .u32)), (20, .c (xi .u32))], []⟩)])]⟩
noncomputable def ref01_round_S (N : Nat) : Sig := .of [Sq19, .cell false .str] [Sq19] (fun a => ref01_round N a.1 a.2)
theorem ref01_round_spec (N : Nat) : Spec Tryz.prog 138 (ref01_round_S N) := spec_of_exe (C := ctx Tryz.prog [] ref01_round_ns) (L := ref01_round_L) (fn := Tryz.f138) (N := N) (ctx_ok trivial) (by kernel_rfl) (by kernel_rfl) (fun a => by kernel_rfl)

noncomputable def ref11_B4_S (N : Nat) : Sig := .of [.cell false (.int .i64)] [.cell false .str] (fun a => ref11_B4 N a)
theorem ref11_B4_spec (N : Nat) : Spec Tryz.prog 109 (ref11_B4_S N) := spec_of_exe (C := ctx Tryz.prog [] []) (L := ⟨[], []⟩) (fn := Tryz.f109) (N := N) (ctx_ok trivial) (by kernel_rfl) (by kernel_rfl) (fun a => by kernel_rfl)

noncomputable def ref14_None_S (N : Nat) : Sig := .of [] [Sq17] (fun _ => ref14_None N)
theorem ref14_None_spec (N : Nat) : Spec Tryz.prog 77 (ref14_None_S N) := spec_of_exe (C := ctx Tryz.prog [] []) (L := ⟨[], []⟩) (fn := Tryz.f77) (N := N) (ctx_ok trivial) (by kernel_rfl) (by kernel_rfl) (fun a => by kernel_rfl)

noncomputable def made_Policy_S (N : Nat) : Sig := .of [.cell false (.int .i64)] [.cell false .str] (fun a => made_Policy N a)
theorem made_Policy_spec (N : Nat) : Spec Tryz.prog 110 (made_Policy_S N) := spec_of_exe (C := ctx Tryz.prog [] []) (L := ⟨[], []⟩) (fn := Tryz.f110) (N := N) (ctx_ok trivial) (by kernel_rfl) (by kernel_rfl) (fun a => by kernel_rfl)

noncomputable def bundle_seen_first_S (N : Nat) : Sig := .of [Sq20, .cell false .str, .cell false .str] [.cell false .bool] (fun a => bundle_seen_first N a.1 a.2.1 a.2.2)
theorem bundle_seen_first_spec (N : Nat) : Spec Tryz.prog 17 (bundle_seen_first_S N) := spec_of_exe (C := ctx Tryz.prog [] []) (L := ⟨[], []⟩) (fn := Tryz.f17) (N := N) (ctx_ok trivial) (by kernel_rfl) (by kernel_rfl) (fun a => by kernel_rfl)

def ref14_contains_ns : List (Nat × Nrm) := [(3, ⟨[], [], [], [], []⟩), (10, ⟨[1, 7, 8, 9], [], [], [], []⟩)]
def ref14_contains_L : Lk := ⟨[], [(10, ⟨[(1, .i), (7, .i), (8, .i), (9, .c x64)], []⟩, [(0, ⟨[], []⟩)])]⟩
noncomputable def ref14_contains_S (N : Nat) : Sig := .of [Sq0, .cell false .str] [.cell false .bool] (fun a => ref14_contains N a.1 a.2)
theorem ref14_contains_spec (N : Nat) : Spec Tryz.prog 19 (ref14_contains_S N) := spec_of_exe (C := ctx Tryz.prog [] ref14_contains_ns) (L := ref14_contains_L) (fn := Tryz.f19) (N := N) (ctx_ok trivial) (by kernel_rfl) (by kernel_rfl) (fun a => by kernel_rfl)

end Go.Proofs.YtnllccjmbijjlaaGreat.Vm

/-
  The functions of the program compute what is printed of them.
-/
namespace Go.Proofs.YtnllccjmbijjlaaGreat.Vm
open Go.Proofs
def ref14_SameStrings_ns : List (Nat × Nrm) := [(3, ⟨[], [], [], [], []⟩), (18, ⟨[0, 1, 12, 13], [], [], [], []⟩)]
def ref14_SameStrings_L : Lk := ⟨[], [(18, ⟨[(0, .i), (1, .i), (12, .i), (13, .c x64)], []⟩, [(0, ⟨[], []⟩)])]⟩
noncomputable def ref14_SameStrings_S (N : Nat) : Sig := .of [Sq0, Sq0] [.cell false .bool] (fun a => ref14_SameStrings N a.1 a.2)
theorem ref14_SameStrings_spec (N : Nat) : Spec Tryz.prog 21 (ref14_SameStrings_S N) := spec_of_exe (C := ctx Tryz.prog [] ref14_SameStrings_ns) (L := ref14_SameStrings_L) (fn := Tryz.f21) (N := N) (ctx_ok trivial) (by kernel_rfl) (by kernel_rfl) (fun a => by kernel_rfl)

end Go.Proofs.YtnllccjmbijjlaaGreat.Vm

/-
  The functions of the program compute what is printed of them.
-/
namespace Go.Proofs.YtnllccjmbijjlaaGreat.Vm
open Go.Proofs
noncomputable def made_attribute_S (N : Nat) : Sig := .of [Sq6] [Sq11] (fun a => made_attribute N a)
theorem made_attribute_spec (N : Nat) : Spec Tryz.prog 75 (made_attribute_S N) := spec_of_exe (C := ctx Tryz.prog [(14, made_Deck_Next_S N)] []) (L := ⟨[], []⟩) (fn := Tryz.f75) (N := N) (ctx_ok ⟨made_Deck_Next_spec N, trivial⟩) (by kernel_rfl) (by kernel_rfl) (fun a => by kernel_rfl)

def ref14_Known_ns : List (Nat × Nrm) := [(3, ⟨[], [], [], [], []⟩), (10, ⟨[0, 5, 6, 7], [], [], [], []⟩)]
def ref14_Known_L : Lk := ⟨[], [(10, ⟨[(0, .i), (5, .i), (6, .i), (7, .c x64)], []⟩, [(0, ⟨[], []⟩)])]⟩
noncomputable def ref14_Known_S (N : Nat) : Sig := .of [.cell false .str] [.cell false .bool] (fun a => ref14_Known N a)
theorem ref14_Known_spec (N : Nat) : Spec Tryz.prog 134 (ref14_Known_S N) := spec_of_exe (C := ctx Tryz.prog [(147, ref14_known_S N)] ref14_Known_ns) (L := ref14_Known_L) (fn := Tryz.f134) (N := N) (ctx_ok ⟨ref14_known_spec N, trivial⟩) (by kernel_rfl) (by kernel_rfl) (fun a => by kernel_rfl)

noncomputable def ref14_raw_S (N : Nat) : Sig := .of [Sq2] [.cell false .str] (fun a => ref14_raw N a)
theorem ref14_raw_spec (N : Nat) : Spec Tryz.prog 106 (ref14_raw_S N) := spec_of_exe (C := ctx Tryz.prog [(136, ref11_B1_S N)] []) (L := ⟨[], []⟩) (fn := Tryz.f106) (N := N) (ctx_ok ⟨ref11_B1_spec N, trivial⟩) (by kernel_rfl) (by kernel_rfl) (fun a => by kernel_rfl)

def ref01_Sum_ns : List (Nat × Nrm) := [(3, ⟨[3], [], [], [], []⟩), (11, ⟨[3, 6, 9], [], [], [], []⟩), (14, ⟨[3, 15, 16, 17], [], [], [], []⟩), (19, ⟨[6], [], [(none, 6, (.int .u32 .nil))], [], []⟩), (27, ⟨[12], [], [], [(51456, 1032768), (1028672, 1032768)], []⟩), (49, ⟨[3, 6, 7, 8], [], [], [], []⟩), (62, ⟨[3, 6, 7, 9, 10], [], [], [], []⟩), (82, ⟨[3, 6, 11], [], [(none, 6, (.int .u32 .nil))], [], []⟩), (102, ⟨[12, 74, 75, 76], [], [], [(51456, 1028672), (56576, 1028672)], []⟩)]
def ref01_Sum_L : Lk := ⟨[(49, ⟨[(3, .i), (6, .c (xo 39168)), (7, .i), (8, .c x64)], [(39168, .arr 210 false (.int .u32 .nil))]⟩)], [(14, ⟨[(3, .c xs), (15, .i), (16, .i), (17, .c x64)], []⟩, [(0, ⟨[(3, .c xs)], []⟩)]), (62, ⟨[(3, .i), (6, .c (xo 39168)), (7, .i), (9, .c (xo 41984)), (10, .c x64)], [(39168, .arr 210 false (.int .u32 .nil)), (41984, .arr 5 false (.int .u8 .nil))]⟩, [(2, ⟨[(3, .i), (6, .c (xo 39168)), (9, .c (xo 41984))], [(39168, .arr 210 false (.int .u32 .nil)), (41984, .arr 5 false (.int .u8 .nil))]⟩)]), (82, ⟨[(3, .i), (6, .c (xl (.int .u32 .nil))), (11, .c x64)], []⟩, [(4, ⟨[(6, .c (xl (.int .u32 .nil)))], []⟩)]), (102, ⟨[(12, .c (xo 1028672)), (74, .i), (75, .i), (76, .c x64)], [(1028672, .arr 5 false (.int .u8 .nil))]⟩, [(6, ⟨[(12, .c (xo 1032768))], [(1032768, .arr 5 false (.int .u8 .nil))]⟩)])]⟩
noncomputable def ref01_Sum_S (N : Nat) : Sig := .of [Sq0] [.cell false .str] (fun a => ref01_Sum N a)
theorem ref01_Sum_spec (N : Nat) : Spec Tryz.prog 108 (ref01_Sum_S N) := spec_of_exe (C := ctx Tryz.prog [(138, ref01_round_S N)] ref01_Sum_ns) (L := ref01_Sum_L) (fn := Tryz.f108) (N := N) (ctx_ok ⟨ref01_round_spec N, trivial⟩) (by kernel_rfl) (by kernel_rfl) (fun a => by kernel_rfl)

def made_oids_ns : List (Nat × Nrm) := [(3, ⟨[5], [([5], 9, (.str .nil), 1016384)], [], [(1000000, 1016384)], []⟩), (11, ⟨[0, 1, 5, 6, 7, 8], [([5], 9, (.str .nil), 1012288)], [], [(1008192, 1012288)], []⟩), (14, ⟨[0, 1, 5, 6], [([5], 9, (.str .nil), 1000000)], [], [(44288, 1000000), (1012288, 1000000)], []⟩), (33, ⟨[0, 1, 5, 6, 7], [([5], 9, (.str .nil), 1004096)], [], [(1000000, 1004096)], []⟩), (42, ⟨[0, 1, 5, 6, 7, 8, 27, 28, 29], [([5, 27], 9, (.str .nil), 1008192)], [], [(1004096, 1008192)], []⟩)]
def made_oids_L : Lk := ⟨[(33, ⟨[(0, .c (.c (.ptr 0 0))), (1, .i), (5, .c (xo 1004096)), (6, .i), (7, .c xs)], [(0, .box [(xl (.int .i64 .nil)), x64]), (1004096, .arr 9 false (.str .nil))]⟩)], [(14, ⟨[(0, .c (.c (.ptr 0 0))), (1, .i), (5, .c (xo 1000000)), (6, .c x64)], [(0, .box [(xl (.int .i64 .nil)), x64]), (1000000, .arr 9 false (.str .nil))]⟩, [(0, ⟨[(5, .c (xo 1016384))], [(0, .box [(xl (.int .i64 .nil)), x64]), (1016384, .arr 9 false (.str .nil))]⟩)]), (42, ⟨[(0, .c (.c (.ptr 0 0))), (1, .i), (5, .c (xo 1008192)), (6, .i), (7, .i), (8, .c xb), (27, .c (xo 1008192)), (28, .i), (29, .c x64)], [(0, .box [(xl (.int .i64 .nil)), x64]), (1008192, .arr 9 false (.str .nil))]⟩, [(2, ⟨[(0, .c (.c (.ptr 0 0))), (1, .i), (5, .c (xo 1012288)), (6, .i), (7, .i), (8, .c xb)], [(0, .box [(xl (.int .i64 .nil)), x64]), (1012288, .arr 9 false (.str .nil))]⟩)])]⟩
noncomputable def made_oids_S (N : Nat) : Sig := .of [Sq6, .cell false .bool] [Sq0] (fun a => made_oids N a.1 a.2)
theorem made_oids_spec (N : Nat) : Spec Tryz.prog 78 (made_oids_S N) := spec_of_exe (C := ctx Tryz.prog [(14, made_Deck_Next_S N), (110, made_Policy_S N)] made_oids_ns) (L := made_oids_L) (fn := Tryz.f78) (N := N) (ctx_ok ⟨made_Deck_Next_spec N, made_Policy_spec N, trivial⟩) (by kernel_rfl) (by kernel_rfl) (fun a => by kernel_rfl)

def made_mappings_ns : List (Nat × Nrm) := [(3, ⟨[3], [([3], 181, (.str (.str .nil)), 1012288)], [], [(1000000, 1012288)], []⟩), (11, ⟨[0, 3, 4, 5, 6], [([3], 181, (.str (.str .nil)), 1008192)], [], [(1004096, 1008192)], []⟩), (14, ⟨[0, 3, 4], [([3], 181, (.str (.str .nil)), 1000000)], [], [(43264, 1000000), (1008192, 1000000)], []⟩), (34, ⟨[0, 3, 4, 5, 6, 23, 24, 25], [([3, 23], 181, (.str (.str .nil)), 1004096)], [], [(1000000, 1004096)], []⟩)]
def made_mappings_L : Lk := ⟨[], [(14, ⟨[(0, .c (.c (.ptr 0 0))), (3, .c (xo 1000000)), (4, .c x64)], [(0, .box [(xl (.int .i64 .nil)), x64]), (1000000, .arr 181 false (.str (.str .nil)))]⟩, [(0, ⟨[(3, .c (xo 1012288))], [(0, .box [(xl (.int .i64 .nil)), x64]), (1012288, .arr 181 false (.str (.str .nil)))]⟩)]), (34, ⟨[(0, .c (.c (.ptr 0 0))), (3, .c (xo 1004096)), (4, .i), (5, .c (.c (.ptr 34048 0))), (6, .c xb), (23, .c (xo 1004096)), (24, .i), (25, .c x64)], [(0, .box [(xl (.int .i64 .nil)), x64]), (34048, .box [xs, xs]), (1004096, .arr 181 false (.str (.str .nil)))]⟩, [(2, ⟨[(0, .c (.c (.ptr 0 0))), (3, .c (xo 1008192)), (4, .i), (5, .c (.c (.ptr 34048 0))), (6, .c xb)], [(0, .box [(xl (.int .i64 .nil)), x64]), (34048, .box [xs, xs]), (1008192, .arr 181 false (.str (.str .nil)))]⟩)])]⟩
noncomputable def made_mappings_S (N : Nat) : Sig := .of [Sq6] [Sq15] (fun a => made_mappings N a)
theorem made_mappings_spec (N : Nat) : Spec Tryz.prog 79 (made_mappings_S N) := spec_of_exe (C := ctx Tryz.prog [(14, made_Deck_Next_S N), (110, made_Policy_S N)] made_mappings_ns) (L := made_mappings_L) (fn := Tryz.f79) (N := N) (ctx_ok ⟨made_Deck_Next_spec N, made_Policy_spec N, trivial⟩) (by kernel_rfl) (by kernel_rfl) (fun a => by kernel_rfl)

def bundle_distinct_ns : List (Nat × Nrm) := [(3, ⟨[6], [([6], 9, (.str .nil), 1004096)], [], [(1000000, 1004096)], []⟩), (18, ⟨[5, 6, 13, 14, 15], [([6], 9, (.str .nil), 1000000)], [], [(39168, 1000000)], []⟩)]
def bundle_distinct_L : Lk := ⟨[], [(18, ⟨[(5, .c (xo 35072)), (6, .c (xo 1000000)), (13, .c (xo 36096)), (14, .i), (15, .c x64)], [(35072, .mp (.str (.str .nil)) (.bool .nil)), (36096, .arr 9 false (.str .nil)), (1000000, .arr 9 false (.str .nil))]⟩, [(0, ⟨[(6, .c (xo 1004096))], [(1004096, .arr 9 false (.str .nil))]⟩)])]⟩
noncomputable def bundle_distinct_S (N : Nat) : Sig := .of [Sq0, Sq0] [Sq0] (fun a => bundle_distinct N a.1 a.2)
theorem bundle_distinct_spec (N : Nat) : Spec Tryz.prog 16 (bundle_distinct_S N) := spec_of_exe (C := ctx Tryz.prog [(17, bundle_seen_first_S N)] bundle_distinct_ns) (L := bundle_distinct_L) (fn := Tryz.f16) (N := N) (ctx_ok ⟨bundle_seen_first_spec N, trivial⟩) (by kernel_rfl) (by kernel_rfl) (fun a => by kernel_rfl)

def ref14_SameBundle_ns : List (Nat × Nrm) := [(3, ⟨[2, 3], [], [], [], []⟩), (18, ⟨[2, 3, 15, 16], [], [], [], []⟩)]
def ref14_SameBundle_L : Lk := ⟨[], [(18, ⟨[(2, .c (.c (.ptr 33280 0))), (3, .c (.c (.ptr 33536 0))), (15, .i), (16, .c x64)], [(33280, .box [(xl (.str .nil)), (xl (.str .nil)), (xl (.str (.str .nil)))]), (33536, .box [(xl (.str .nil)), (xl (.str .nil)), (xl (.str (.str .nil)))])]⟩, [(0, ⟨[(2, .c (.c (.ptr 33280 0))), (3, .c (.c (.ptr 33536 0)))], [(33280, .box [(xl (.str .nil)), (xl (.str .nil)), (xl (.str (.str .nil)))]), (33536, .box [(xl (.str .nil)), (xl (.str .nil)), (xl (.str (.str .nil)))])]⟩)])]⟩
noncomputable def ref14_SameBundle_S (N : Nat) : Sig := .of [Sq1, Sq1] [.cell false .bool] (fun a => ref14_SameBundle N a.1 a.2)
theorem ref14_SameBundle_spec (N : Nat) : Spec Tryz.prog 10 (ref14_SameBundle_S N) := spec_of_exe (C := ctx Tryz.prog [(21, ref14_SameStrings_S N)] ref14_SameBundle_ns) (L := ref14_SameBundle_L) (fn := Tryz.f10) (N := N) (ctx_ok ⟨ref14_SameStrings_spec N, trivial⟩) (by kernel_rfl) (by kernel_rfl) (fun a => by kernel_rfl)

end Go.Proofs.YtnllccjmbijjlaaGreat.Vm

/-
  The functions of the program compute what is printed of them.
-/
namespace Go.Proofs.YtnllccjmbijjlaaGreat.Vm
open Go.Proofs
def ref01_PutInteger_ns : List (Nat × Nrm) := [(3, ⟨[4], [], [], [], []⟩), (11, ⟨[4], [], [(none, 4, (.int .u8 .nil))], [], []⟩), (18, ⟨[3, 4, 5], [([4], 5, (.int .u8 .nil), 1000000)], [], [(37632, 1000000)], []⟩), (30, ⟨[4], [], [(none, 4, (.int .u8 .nil))], [], []⟩)]
def ref01_PutInteger_L : Lk := ⟨[], [(18, ⟨[(3, .i), (4, .c (xo 1000000)), (5, .c x64)], [(1000000, .arr 5 false (.int .u8 .nil))]⟩, [(0, ⟨[(4, .c (xo 1000000))], [(1000000, .arr 5 false (.int .u8 .nil))]⟩)]), (30, ⟨[(4, .c (xl (.int .u8 .nil)))], []⟩, [(2, ⟨[(4, .c (xl (.int .u8 .nil)))], []⟩)])]⟩
noncomputable def ref01_PutInteger_S (N : Nat) : Sig := .of [.cell false (.int .i64)] [.cell false .str] (fun a => ref01_PutInteger N a)
theorem ref01_PutInteger_spec (N : Nat) : Spec Tryz.prog 101 (ref01_PutInteger_S N) := spec_of_exe (C := ctx Tryz.prog [] ref01_PutInteger_ns) (L := ref01_PutInteger_L) (fn := Tryz.f101) (N := N) (ctx_ok trivial) (by kernel_rfl) (by kernel_rfl) (fun a => by kernel_rfl)

def ref01_Read_ns : List (Nat × Nrm) := [(3, ⟨[0, 2, 5, 6, 8], [], [], [], []⟩), (70, ⟨[0, 2, 5, 6, 8, 9], [], [], [], []⟩), (97, ⟨[0, 2, 5, 6, 7], [], [], [], []⟩)]
def ref01_Read_L : Lk := ⟨[(97, ⟨[(0, .i), (2, .c (.c (.ptr 33280 0))), (5, .c (.c (.ptr 34048 0))), (6, .c x64), (7, .c x64)], [(33280, .box [(.c (.int .i64 0)), (.c (.str ([] : Bs))), (.c (.str ([] : Bs)))]), (34048, .box [(.c (.int .i64 0)), (.c (.str ([] : Bs))), (.c (.str ([] : Bs)))])]⟩)], [(70, ⟨[(0, .i), (2, .c (.c (.ptr 33280 0))), (5, .c (.c (.ptr 34048 0))), (6, .c x64), (8, .i), (9, .c x64)], [(33280, .box [(.c (.int .i64 0)), (.c (.str ([] : Bs))), (.c (.str ([] : Bs)))]), (34048, .box [(.c (.int .i64 0)), (.c (.str ([] : Bs))), (.c (.str ([] : Bs)))])]⟩, [(0, ⟨[(0, .i), (2, .c (.c (.ptr 33280 0))), (5, .c (.c (.ptr 34048 0))), (6, .c x64), (8, .i)], [(33280, .box [(.c (.int .i64 0)), (.c (.str ([] : Bs))), (.c (.str ([] : Bs)))]), (34048, .box [(.c (.int .i64 0)), (.c (.str ([] : Bs))), (.c (.str ([] : Bs)))])]⟩)])]⟩
noncomputable def ref01_Read_S (N : Nat) : Sig := .of [.cell false .str] [Sq2, .cell false .str, .cell false (.int .i64)] (fun a => ref01_Read N a)
theorem ref01_Read_spec (N : Nat) : Spec Tryz.prog 112 (ref01_Read_S N) := spec_of_exe (C := ctx Tryz.prog [] ref01_Read_ns) (L := ref01_Read_L) (fn := Tryz.f112) (N := N) (ctx_ok trivial) (by kernel_rfl) (by kernel_rfl) (fun a => by kernel_rfl)

def ref14_Find_ns : List (Nat × Nrm) := [(3, ⟨[4], [], [], [], []⟩), (10, ⟨[1, 4, 8, 9, 10], [], [], [], []⟩)]
def ref14_Find_L : Lk := ⟨[], [(10, ⟨[(1, .i), (4, .c (.c (.ptr 33792 0))), (8, .i), (9, .i), (10, .c x64)], [(33792, .box [(.c (.str ([] : Bs))), (.c (.bool false)), (.c (.str ([] : Bs)))])]⟩, [(0, ⟨[(4, .c (.c (.ptr 33792 0)))], [(33792, .box [(.c (.str ([] : Bs))), (.c (.bool false)), (.c (.str ([] : Bs)))])]⟩)])]⟩
noncomputable def ref14_Find_S (N : Nat) : Sig := .of [.cell false (.sl 158 Tq5), .cell false .str] [Sq13, .cell false .bool] (fun a => ref14_Find N a.1 a.2)
theorem ref14_Find_spec (N : Nat) : Spec Tryz.prog 135 (ref14_Find_S N) := spec_of_exe (C := ctx Tryz.prog [] ref14_Find_ns) (L := ref14_Find_L) (fn := Tryz.f135) (N := N) (ctx_ok trivial) (by kernel_rfl) (by kernel_rfl) (fun a => by kernel_rfl)

noncomputable def ref01_PutBoolean_S (N : Nat) : Sig := .of [.cell false .bool] [.cell false .str] (fun a => ref01_PutBoolean N a)
theorem ref01_PutBoolean_spec (N : Nat) : Spec Tryz.prog 124 (ref01_PutBoolean_S N) := spec_of_exe (C := ctx Tryz.prog [] []) (L := ⟨[], []⟩) (fn := Tryz.f124) (N := N) (ctx_ok trivial) (by kernel_rfl) (by kernel_rfl) (fun a => by kernel_rfl)

def ref01_PutFlags_ns : List (Nat × Nrm) := [(3, ⟨[0, 4], [], [], [], []⟩), (11, ⟨[6], [], [], [], []⟩), (22, ⟨[0, 4, 5], [], [], [], []⟩), (50, ⟨[0, 4, 6, 7], [], [], [], []⟩)]
def ref01_PutFlags_L : Lk := ⟨[], [(22, ⟨[(0, .i), (4, .c x64), (5, .c x64)], []⟩, [(0, ⟨[(0, .i), (4, .c x64)], []⟩)]), (50, ⟨[(0, .i), (4, .i), (6, .c (xo 40192)), (7, .c x64)], [(40192, .arr 5 false (.int .u8 .nil))]⟩, [(2, ⟨[(6, .c (xo 40192))], [(40192, .arr 5 false (.int .u8 .nil))]⟩)])]⟩
noncomputable def ref01_PutFlags_S (N : Nat) : Sig := .of [.cell false (.int .i64)] [.cell false .str, .cell false (.int .i64)] (fun a => ref01_PutFlags N a)
theorem ref01_PutFlags_spec (N : Nat) : Spec Tryz.prog 125 (ref01_PutFlags_S N) := spec_of_exe (C := ctx Tryz.prog [] ref01_PutFlags_ns) (L := ref01_PutFlags_L) (fn := Tryz.f125) (N := N) (ctx_ok trivial) (by kernel_rfl) (by kernel_rfl) (fun a => by kernel_rfl)

noncomputable def ref11_CheckKey_S (N : Nat) : Sig := .of [Sq2] [.cell false (.int .i64)] (fun a => ref11_CheckKey N a)
theorem ref11_CheckKey_spec (N : Nat) : Spec Tryz.prog 104 (ref11_CheckKey_S N) := spec_of_exe (C := ctx Tryz.prog [] []) (L := ⟨[], []⟩) (fn := Tryz.f104) (N := N) (ctx_ok trivial) (by kernel_rfl) (by kernel_rfl) (fun a => by kernel_rfl)

noncomputable def ref14_skip_S (N : Nat) : Sig := .of [.cell false (.int .i64)] [.cell false .bool] (fun a => ref14_skip N a)
theorem ref14_skip_spec (N : Nat) : Spec Tryz.prog 128 (ref14_skip_S N) := spec_of_exe (C := ctx Tryz.prog [] []) (L := ⟨[], []⟩) (fn := Tryz.f128) (N := N) (ctx_ok trivial) (by kernel_rfl) (by kernel_rfl) (fun a => by kernel_rfl)

def ref14_Count_ns : List (Nat × Nrm) := [(3, ⟨[3], [], [], [], []⟩), (14, ⟨[3, 57, 58, 59], [], [], [], []⟩)]
def ref14_Count_L : Lk := ⟨[], [(14, ⟨[(3, .c x64), (57, .c (xo 47360)), (58, .i), (59, .c x64)], [(47360, .arr 4 false (.bool .nil))]⟩, [(0, ⟨[(3, .c x64)], []⟩)])]⟩
noncomputable def ref14_Count_S (N : Nat) : Sig := .of [Sq17] [.cell false (.int .i64)] (fun a => ref14_Count N a)
theorem ref14_Count_spec (N : Nat) : Spec Tryz.prog 132 (ref14_Count_S N) := spec_of_exe (C := ctx Tryz.prog [] ref14_Count_ns) (L := ref14_Count_L) (fn := Tryz.f132) (N := N) (ctx_ok trivial) (by kernel_rfl) (by kernel_rfl) (fun a => by kernel_rfl)

end Go.Proofs.YtnllccjmbijjlaaGreat.Vm

/-
  The functions of the program compute what is printed of them.
-/
namespace Go.Proofs.YtnllccjmbijjlaaGreat.Vm
open Go.Proofs
def ref01_EncodeOID_ns : List (Nat × Nrm) := [(3, ⟨[6], [([6], 5, (.int .u8 .nil), 1020480)], [], [(1000000, 1020480)], []⟩), (11, ⟨[6, 9, 30, 31, 32], [([6], 5, (.int .u8 .nil), 1008192)], [], [(1004112, 1008192)], []⟩), (19, ⟨[6, 9, 30, 31, 32], [([6], 5, (.int .u8 .nil), 1016384)], [], [(1012288, 1016384)], []⟩), (30, ⟨[6, 30, 31, 32], [([6], 5, (.int .u8 .nil), 1000000)], [], [(48384, 1000000)], []⟩), (42, ⟨[6, 8, 9, 30, 31, 32], [([9], 5, (.int .u8 .nil), 1004096), ([6], 5, (.int .u8 .nil), 1004112)], [], [(43264, 1004096), (1000000, 1004112)], []⟩), (58, ⟨[6, 9, 10, 30, 31, 32], [([6], 5, (.int .u8 .nil), 1012288)], [], [(1008192, 1012288)], []⟩)]
def ref01_EncodeOID_L : Lk := ⟨[], [(30, ⟨[(6, .c (xo 1000000)), (30, .c (xo 40192)), (31, .i), (32, .c x64)], [(40192, .arr 3 false (.int .i64 .nil)), (1000000, .arr 5 false (.int .u8 .nil))]⟩, [(0, ⟨[(6, .c (xo 1020480))], [(1020480, .arr 5 false (.int .u8 .nil))]⟩)]), (42, ⟨[(6, .c (xo 1004112)), (8, .c x64), (9, .c (xo 1004096)), (30, .c (xo 40192)), (31, .i), (32, .i)], [(40192, .arr 3 false (.int .i64 .nil)), (1004096, .arr 5 false (.int .u8 .nil)), (1004112, .arr 5 false (.int .u8 .nil))]⟩, [(2, ⟨[(6, .c (xo 1008192)), (9, .c (xo 43264)), (30, .c (xo 40192)), (31, .i), (32, .i)], [(40192, .arr 3 false (.int .i64 .nil)), (43264, .arr 5 false (.int .u8 .nil)), (1008192, .arr 5 false (.int .u8 .nil))]⟩)]), (58, ⟨[(6, .c (xo 1012288)), (9, .c (xo 43264)), (10, .c x64), (30, .c (xo 40192)), (31, .i), (32, .i)], [(40192, .arr 3 false (.int .i64 .nil)), (43264, .arr 5 false (.int .u8 .nil)), (1012288, .arr 5 false (.int .u8 .nil))]⟩, [(4, ⟨[(6, .c (xo 1016384)), (9, .c (xo 43264)), (30, .c (xo 40192)), (31, .i), (32, .i)], [(40192, .arr 3 false (.int .i64 .nil)), (43264, .arr 5 false (.int .u8 .nil)), (1016384, .arr 5 false (.int .u8 .nil))]⟩)])]⟩
noncomputable def ref01_EncodeOID_S (N : Nat) : Sig := .of [.cell false .str] [.cell false .str, .cell false (.int .i64)] (fun a => ref01_EncodeOID N a)
theorem ref01_EncodeOID_spec (N : Nat) : Spec Tryz.prog 126 (ref01_EncodeOID_S N) := spec_of_exe (C := ctx Tryz.prog [(145, ref01_arcs_S N)] ref01_EncodeOID_ns) (L := ref01_EncodeOID_L) (fn := Tryz.f126) (N := N) (ctx_ok ⟨ref01_arcs_spec N, trivial⟩) (by kernel_rfl) (by kernel_rfl) (fun a => by kernel_rfl)

def ref01_Civil_ns : List (Nat × Nrm) := [(3, ⟨[0, 2, 4, 5], [], [], [], []⟩), (11, ⟨[0, 2, 4, 5, 6], [], [], [], []⟩), (22, ⟨[0, 2, 4, 5], [], [], [], []⟩), (38, ⟨[0, 2, 4, 5, 6], [], [], [], []⟩)]
def ref01_Civil_L : Lk := ⟨[], [(22, ⟨[(0, .i), (2, .c (.c (.ptr 33280 0))), (4, .i), (5, .c x64)], [(33280, .box [(.c (.int .i64 0)), (.c (.int .i64 0)), (.c (.int .i64 0)), (.c (.int .i64 0)), (.c (.int .i64 0)), (.c (.int .i64 0))])]⟩, [(0, ⟨[(0, .i), (2, .c (.c (.ptr 33280 0))), (4, .i), (5, .c x64)], [(33280, .box [(.c (.int .i64 0)), (.c (.int .i64 0)), (.c (.int .i64 0)), (.c (.int .i64 0)), (.c (.int .i64 0)), (.c (.int .i64 0))])]⟩)]), (38, ⟨[(0, .i), (2, .c (.c (.ptr 33280 0))), (4, .c x64), (5, .i), (6, .c x64)], [(33280, .box [(.c (.int .i64 0)), (.c (.int .i64 0)), (.c (.int .i64 0)), (.c (.int .i64 0)), (.c (.int .i64 0)), (.c (.int .i64 0))])]⟩, [(2, ⟨[(0, .i), (2, .c (.c (.ptr 33280 0))), (4, .c x64), (5, .i), (6, .c x64)], [(33280, .box [(.c (.int .i64 0)), (.c (.int .i64 0)), (.c (.int .i64 0)), (.c (.int .i64 0)), (.c (.int .i64 0)), (.c (.int .i64 0))])]⟩)])]⟩
noncomputable def ref01_Civil_S (N : Nat) : Sig := .of [.cell false (.int .i64)] [Sq12, .cell false (.int .i64)] (fun a => ref01_Civil N a)
theorem ref01_Civil_spec (N : Nat) : Spec Tryz.prog 92 (ref01_Civil_S N) := spec_of_exe (C := ctx Tryz.prog [(120, ref01_before_S N), (121, ref01_days_S N)] ref01_Civil_ns) (L := ref01_Civil_L) (fn := Tryz.f92) (N := N) (ctx_ok ⟨ref01_before_spec N, ref01_days_spec N, trivial⟩) (by kernel_rfl) (by kernel_rfl) (fun a => by kernel_rfl)

def ref01_pad_ns : List (Nat × Nrm) := [(3, ⟨[5], [], [], [], []⟩), (10, ⟨[1, 5], [], [], [], []⟩)]
def ref01_pad_L : Lk := ⟨[], [(10, ⟨[(1, .i), (5, .c xs)], []⟩, [(0, ⟨[(5, .c xs)], []⟩)])]⟩
noncomputable def ref01_pad_S (N : Nat) : Sig := .of [.cell false (.int .i64), .cell false (.int .i64)] [.cell false .str] (fun a => ref01_pad N a.1 a.2)
theorem ref01_pad_spec (N : Nat) : Spec Tryz.prog 93 (ref01_pad_S N) := spec_of_exe (C := ctx Tryz.prog [(69, ref01_Dec_S N)] ref01_pad_ns) (L := ref01_pad_L) (fn := Tryz.f93) (N := N) (ctx_ok ⟨ref01_Dec_spec N, trivial⟩) (by kernel_rfl) (by kernel_rfl) (fun a => by kernel_rfl)

noncomputable def ref07_Fit_S (N : Nat) : Sig := .of [.cell false (.int .i64), Sq0] [.cell false .str, .cell false (.int .i64)] (fun a => ref07_Fit N a.1 a.2)
theorem ref07_Fit_spec (N : Nat) : Spec Tryz.prog 63 (ref07_Fit_S N) := spec_of_exe (C := ctx Tryz.prog [(94, ref01_Wrap_S N)] []) (L := ⟨[], []⟩) (fn := Tryz.f63) (N := N) (ctx_ok ⟨ref01_Wrap_spec N, trivial⟩) (by kernel_rfl) (by kernel_rfl) (fun a => by kernel_rfl)

noncomputable def ref01_One_S (N : Nat) : Sig := .of [.cell false .str] [Sq2, .cell false (.int .i64)] (fun a => ref01_One N a)
theorem ref01_One_spec (N : Nat) : Spec Tryz.prog 82 (ref01_One_S N) := spec_of_exe (C := ctx Tryz.prog [(112, ref01_Read_S N)] []) (L := ⟨[], []⟩) (fn := Tryz.f82) (N := N) (ctx_ok ⟨ref01_Read_spec N, trivial⟩) (by kernel_rfl) (by kernel_rfl) (fun a => by kernel_rfl)

def ref01_check_ns : List (Nat × Nrm) := [(3, ⟨[], [], [], [], []⟩), (18, ⟨[1, 5], [], [], [], []⟩)]
def ref01_check_L : Lk := ⟨[], [(18, ⟨[(1, .i), (5, .c xs)], []⟩, [(0, ⟨[], []⟩)])]⟩
noncomputable def ref01_check_Sn (N n : Nat) : Sig := .of [Sq2, .cell false (.int .i64)] [.cell false (.int .i64)] (fun a => ref01_check N n a.1 a.2)
theorem ref01_check_specn (N : Nat) : ∀ n, Spec Tryz.prog 83 (ref01_check_Sn N n)
  | 0 => spec_none (C := ctx Tryz.prog [] []) (fn := Tryz.f83) (ctx_ok (gs := []) trivial) (by kernel_rfl) (by kernel_rfl)
  | n + 1 => spec_of_exe (C := ctx Tryz.prog ((83, ref01_check_Sn N n) :: [(112, ref01_Read_S N)]) ref01_check_ns) (L := ref01_check_L) (fn := Tryz.f83) (N := N) (ctx_ok ⟨ref01_check_specn N n, ⟨ref01_Read_spec N, trivial⟩⟩) (by kernel_rfl) (by kernel_rfl) (fun a => by kernel_rfl)
noncomputable def ref01_check_S (N : Nat) : Sig := ref01_check_Sn N N
theorem ref01_check_spec (N : Nat) : Spec Tryz.prog 83 (ref01_check_S N) := ref01_check_specn N N

def made_Authority_ns : List (Nat × Nrm) := [(17, ⟨[0, 2, 3], [], [], [], []⟩)]
def made_Authority_L : Lk := ⟨[(17, ⟨[(0, .i), (2, .c (.c (.ptr 33280 0))), (3, .c xs)], [(33280, .box [(xo 33281)]), (33281, .arr0 145 false (.sl 144 Tq1 .nil))]⟩)], []⟩
noncomputable def made_Authority_S (N : Nat) : Sig := .of [.cell false (.int .i64)] [Sq7] (fun a => made_Authority N a)
theorem made_Authority_spec (N : Nat) : Spec Tryz.prog 44 (made_Authority_S N) := spec_of_exe (C := ctx Tryz.prog [(69, ref01_Dec_S N)] made_Authority_ns) (L := made_Authority_L) (fn := Tryz.f44) (N := N) (ctx_ok ⟨ref01_Dec_spec N, trivial⟩) (by kernel_rfl) (by kernel_rfl) (fun a => by kernel_rfl)

noncomputable def made_Time_S (N : Nat) : Sig := .of [Sq6] [.cell false (.int .i64)] (fun a => made_Time N a)
theorem made_Time_spec (N : Nat) : Spec Tryz.prog 45 (made_Time_S N) := spec_of_exe (C := ctx Tryz.prog [(14, made_Deck_Next_S N)] []) (L := ⟨[], []⟩) (fn := Tryz.f45) (N := N) (ctx_ok ⟨made_Deck_Next_spec N, trivial⟩) (by kernel_rfl) (by kernel_rfl) (fun a => by kernel_rfl)

end Go.Proofs.YtnllccjmbijjlaaGreat.Vm

/-
  The functions of the program compute what is printed of them.
-/
namespace Go.Proofs.YtnllccjmbijjlaaGreat.Vm
open Go.Proofs
noncomputable def tlv_One_S (N : Nat) : Sig := .of [.cell false .str] [Sq2, .cell false (.int .i64)] (fun a => tlv_One N a)
theorem tlv_One_spec (N : Nat) : Spec Tryz.prog 57 (tlv_One_S N) := spec_of_exe (C := ctx Tryz.prog [(58, tlv_Read_S N)] []) (L := ⟨[], []⟩) (fn := Tryz.f57) (N := N) (ctx_ok ⟨tlv_Read_spec N, trivial⟩) (by kernel_rfl) (by kernel_rfl) (fun a => by kernel_rfl)

def tlv_within_ns : List (Nat × Nrm) := [(3, ⟨[], [], [], [], []⟩), (18, ⟨[1, 5], [], [], [], []⟩)]
def tlv_within_L : Lk := ⟨[], [(18, ⟨[(1, .i), (5, .c xs)], []⟩, [(0, ⟨[], []⟩)])]⟩
noncomputable def tlv_within_Sn (N n : Nat) : Sig := .of [Sq2, .cell false (.int .i64)] [.cell false (.int .i64)] (fun a => tlv_within N n a.1 a.2)
theorem tlv_within_specn (N : Nat) : ∀ n, Spec Tryz.prog 81 (tlv_within_Sn N n)
  | 0 => spec_none (C := ctx Tryz.prog [] []) (fn := Tryz.f81) (ctx_ok (gs := []) trivial) (by kernel_rfl) (by kernel_rfl)
  | n + 1 => spec_of_exe (C := ctx Tryz.prog ((81, tlv_within_Sn N n) :: [(58, tlv_Read_S N)]) tlv_within_ns) (L := tlv_within_L) (fn := Tryz.f81) (N := N) (ctx_ok ⟨tlv_within_specn N n, ⟨tlv_Read_spec N, trivial⟩⟩) (by kernel_rfl) (by kernel_rfl) (fun a => by kernel_rfl)
noncomputable def tlv_within_S (N : Nat) : Sig := tlv_within_Sn N N
theorem tlv_within_spec (N : Nat) : Spec Tryz.prog 81 (tlv_within_S N) := tlv_within_specn N N

noncomputable def der_Writer_Seq_S (N : Nat) : Sig := .of [.box [(false, .bool)], Sq0] [.cell false .str] (fun a => der_Writer_Seq N a.1 a.2)
theorem der_Writer_Seq_spec (N : Nat) : Spec Tryz.prog 22 (der_Writer_Seq_S N) := spec_of_exe (C := ctx Tryz.prog [(36, der_Writer_Wrap_S N)] []) (L := ⟨[], []⟩) (fn := Tryz.f22) (N := N) (ctx_ok ⟨der_Writer_Wrap_spec N, trivial⟩) (by kernel_rfl) (by kernel_rfl) (fun a => by kernel_rfl)

def bundle_part_ns : List (Nat × Nrm) := [(3, ⟨[], [], [], [], []⟩), (10, ⟨[0, 1, 2, 9, 10, 11], [], [], [], []⟩)]
def bundle_part_L : Lk := ⟨[], [(10, ⟨[(0, .c (.c (.ptr 0 0))), (1, .i), (2, .i), (9, .i), (10, .i), (11, .c x64)], [(0, .box [xb])]⟩, [(0, ⟨[], [(0, .box [xb])]⟩)])]⟩
noncomputable def bundle_part_S (N : Nat) : Sig := .of [.box [(false, .bool)], .cell false (.int .i64), Sq0] [.cell false .str] (fun a => bundle_part N a.1 a.2.1 a.2.2)
theorem bundle_part_spec (N : Nat) : Spec Tryz.prog 23 (bundle_part_S N) := spec_of_exe (C := ctx Tryz.prog [(36, der_Writer_Wrap_S N)] bundle_part_ns) (L := bundle_part_L) (fn := Tryz.f23) (N := N) (ctx_ok ⟨der_Writer_Wrap_spec N, trivial⟩) (by kernel_rfl) (by kernel_rfl) (fun a => by kernel_rfl)

def tlv_List_ns : List (Nat × Nrm) := [(3, ⟨[4], [([4], 100, Tq0, 1004096)], [], [(1000000, 1004096)], []⟩), (10, ⟨[0, 4], [([4], 100, Tq0, 1000000)], [], [(38400, 1000000)], []⟩)]
def tlv_List_L : Lk := ⟨[], [(10, ⟨[(0, .c xs), (4, .c (xo 1000000))], [(1000000, .arr 100 false Tq0)]⟩, [(0, ⟨[(4, .c (xo 1004096))], [(1004096, .arr 100 false Tq0)]⟩)])]⟩
noncomputable def tlv_List_S (N : Nat) : Sig := .of [.cell false .str] [.cell false (.sl 100 Tq0), .cell false (.int .i64)] (fun a => tlv_List N a)
theorem tlv_List_spec (N : Nat) : Spec Tryz.prog 40 (tlv_List_S N) := spec_of_exe (C := ctx Tryz.prog [(58, tlv_Read_S N)] tlv_List_ns) (L := tlv_List_L) (fn := Tryz.f40) (N := N) (ctx_ok ⟨tlv_Read_spec N, trivial⟩) (by kernel_rfl) (by kernel_rfl) (fun a => by kernel_rfl)

def ref07_checkAttributes_ns : List (Nat × Nrm) := [(3, ⟨[], [], [], [], []⟩), (10, ⟨[0, 6, 7, 8], [], [], [], []⟩), (11, ⟨[0, 6, 7, 8], [], [], [], []⟩), (46, ⟨[0, 3, 4, 5, 6, 7, 8], [], [], [], []⟩)]
def ref07_checkAttributes_L : Lk := ⟨[], [(10, ⟨[(0, .i), (6, .i), (7, .i), (8, .c x64)], []⟩, [(0, ⟨[], []⟩)]), (46, ⟨[(0, .i), (3, .i), (4, .c (.c (.ptr 33792 0))), (5, .c x64), (6, .i), (7, .i), (8, .i)], [(33792, .box [xs, x64, xs])]⟩, [(2, ⟨[(0, .i), (6, .i), (7, .i), (8, .i)], []⟩)])]⟩
noncomputable def ref07_checkAttributes_S (N : Nat) : Sig := .of [.cell false (.sl 144 Tq1)] [.cell false (.int .i64)] (fun a => ref07_checkAttributes N a)
theorem ref07_checkAttributes_spec (N : Nat) : Spec Tryz.prog 116 (ref07_checkAttributes_S N) := spec_of_exe (C := ctx Tryz.prog [(133, ref01_ValidOID_S N), (141, ref01_ValidText_S N)] ref07_checkAttributes_ns) (L := ref07_checkAttributes_L) (fn := Tryz.f116) (N := N) (ctx_ok ⟨ref01_ValidOID_spec N, ref01_ValidText_spec N, trivial⟩) (by kernel_rfl) (by kernel_rfl) (fun a => by kernel_rfl)

def ref07_parts_ns : List (Nat × Nrm) := [(3, ⟨[0, 5], [], [], [], []⟩), (11, ⟨[0, 5], [], [], [], []⟩), (18, ⟨[0, 5], [], [], [], []⟩), (38, ⟨[0, 5, 6], [], [], [], []⟩)]
def ref07_parts_L : Lk := ⟨[], [(18, ⟨[(0, .i), (5, .c x64)], []⟩, [(0, ⟨[(0, .i), (5, .c x64)], []⟩)]), (38, ⟨[(0, .i), (5, .i), (6, .c x64)], []⟩, [(2, ⟨[(0, .i), (5, .i)], []⟩)])]⟩
noncomputable def ref07_parts_S (N : Nat) : Sig := .of [.cell false .str] [.cell false .str, .cell false .str, .cell false .bool] (fun a => ref07_parts N a)
theorem ref07_parts_spec (N : Nat) : Spec Tryz.prog 162 (ref07_parts_S N) := spec_of_exe (C := ctx Tryz.prog [(161, ref07_DNS_S N), (152, ref01_Alnum_S N), (153, ref01_Among_S N)] ref07_parts_ns) (L := ref07_parts_L) (fn := Tryz.f162) (N := N) (ctx_ok ⟨ref07_DNS_spec N, ref01_Alnum_spec N, ref01_Among_spec N, trivial⟩) (by kernel_rfl) (by kernel_rfl) (fun a => by kernel_rfl)

noncomputable def ref07_Base_S (N : Nat) : Sig := .of [.cell false .str] [.cell false .bool] (fun a => ref07_Base N a)
theorem ref07_Base_spec (N : Nat) : Spec Tryz.prog 156 (ref07_Base_S N) := spec_of_exe (C := ctx Tryz.prog [(161, ref07_DNS_S N)] []) (L := ⟨[], []⟩) (fn := Tryz.f156) (N := N) (ctx_ok ⟨ref07_DNS_spec N, trivial⟩) (by kernel_rfl) (by kernel_rfl) (fun a => by kernel_rfl)

end Go.Proofs.YtnllccjmbijjlaaGreat.Vm

/-
  The functions of the program compute what is printed of them.
-/
namespace Go.Proofs.YtnllccjmbijjlaaGreat.Vm
open Go.Proofs
noncomputable def ref07_Pattern_S (N : Nat) : Sig := .of [.cell false .str] [.cell false .bool] (fun a => ref07_Pattern N a)
theorem ref07_Pattern_spec (N : Nat) : Spec Tryz.prog 157 (ref07_Pattern_S N) := spec_of_exe (C := ctx Tryz.prog [(161, ref07_DNS_S N), (163, ref07_Split_S N)] []) (L := ⟨[], []⟩) (fn := Tryz.f157) (N := N) (ctx_ok ⟨ref07_DNS_spec N, ref07_Split_spec N, trivial⟩) (by kernel_rfl) (by kernel_rfl) (fun a => by kernel_rfl)

noncomputable def ref01_MatchText_S (N : Nat) : Sig := .of [.cell false .str, .cell false .str] [.cell false .bool] (fun a => ref01_MatchText N a.1 a.2)
theorem ref01_MatchText_spec (N : Nat) : Spec Tryz.prog 160 (ref01_MatchText_S N) := spec_of_exe (C := ctx Tryz.prog [(164, ref01_Fold_S N)] []) (L := ⟨[], []⟩) (fn := Tryz.f160) (N := N) (ctx_ok ⟨ref01_Fold_spec N, trivial⟩) (by kernel_rfl) (by kernel_rfl) (fun a => by kernel_rfl)

noncomputable def ref07_OID_S (N : Nat) : Sig := .of [.cell false .str] [.cell false .str] (fun a => ref07_OID N a)
theorem ref07_OID_spec (N : Nat) : Spec Tryz.prog 102 (ref07_OID_S N) := spec_of_exe (C := ctx Tryz.prog [(126, ref01_EncodeOID_S N), (74, ref07_Wrap_S N)] []) (L := ⟨[], []⟩) (fn := Tryz.f102) (N := N) (ctx_ok ⟨ref01_EncodeOID_spec N, ref07_Wrap_spec N, trivial⟩) (by kernel_rfl) (by kernel_rfl) (fun a => by kernel_rfl)

noncomputable def ref01_EncodeTime_S (N : Nat) : Sig := .of [.cell false (.int .i64)] [.cell false .str, .cell false (.int .i64)] (fun a => ref01_EncodeTime N a)
theorem ref01_EncodeTime_spec (N : Nat) : Spec Tryz.prog 61 (ref01_EncodeTime_S N) := spec_of_exe (C := ctx Tryz.prog [(92, ref01_Civil_S N), (93, ref01_pad_S N), (94, ref01_Wrap_S N)] []) (L := ⟨[], []⟩) (fn := Tryz.f61) (N := N) (ctx_ok ⟨ref01_Civil_spec N, ref01_pad_spec N, ref01_Wrap_spec N, trivial⟩) (by kernel_rfl) (by kernel_rfl) (fun a => by kernel_rfl)

noncomputable def ref14_number_S (N : Nat) : Sig := .of [.cell false (.int .i64), .cell false (.int .i64)] [.cell false .str] (fun a => ref14_number N a.1 a.2)
theorem ref14_number_spec (N : Nat) : Spec Tryz.prog 66 (ref14_number_S N) := spec_of_exe (C := ctx Tryz.prog [(101, ref01_PutInteger_S N), (74, ref07_Wrap_S N)] []) (L := ⟨[], []⟩) (fn := Tryz.f66) (N := N) (ctx_ok ⟨ref01_PutInteger_spec N, ref07_Wrap_spec N, trivial⟩) (by kernel_rfl) (by kernel_rfl) (fun a => by kernel_rfl)

noncomputable def ref01_Check_S (N : Nat) : Sig := .of [.cell false .str] [.cell false (.int .i64)] (fun a => ref01_Check N a)
theorem ref01_Check_spec (N : Nat) : Spec Tryz.prog 54 (ref01_Check_S N) := spec_of_exe (C := ctx Tryz.prog [(82, ref01_One_S N), (83, ref01_check_S N)] []) (L := ⟨[], []⟩) (fn := Tryz.f54) (N := N) (ctx_ok ⟨ref01_One_spec N, ref01_check_spec N, trivial⟩) (by kernel_rfl) (by kernel_rfl) (fun a => by kernel_rfl)

noncomputable def ref14_boolean_S (N : Nat) : Sig := .of [.cell false (.int .i64), .cell false .bool] [.cell false .str] (fun a => ref14_boolean N a.1 a.2)
theorem ref14_boolean_spec (N : Nat) : Spec Tryz.prog 98 (ref14_boolean_S N) := spec_of_exe (C := ctx Tryz.prog [(124, ref01_PutBoolean_S N), (74, ref07_Wrap_S N)] []) (L := ⟨[], []⟩) (fn := Tryz.f98) (N := N) (ctx_ok ⟨ref01_PutBoolean_spec N, ref07_Wrap_spec N, trivial⟩) (by kernel_rfl) (by kernel_rfl) (fun a => by kernel_rfl)

noncomputable def ref14_flags_S (N : Nat) : Sig := .of [.cell false (.int .i64), .cell false (.int .i64)] [.cell false .str] (fun a => ref14_flags N a.1 a.2)
theorem ref14_flags_spec (N : Nat) : Spec Tryz.prog 99 (ref14_flags_S N) := spec_of_exe (C := ctx Tryz.prog [(125, ref01_PutFlags_S N), (74, ref07_Wrap_S N)] []) (L := ⟨[], []⟩) (fn := Tryz.f99) (N := N) (ctx_ok ⟨ref01_PutFlags_spec N, ref07_Wrap_spec N, trivial⟩) (by kernel_rfl) (by kernel_rfl) (fun a => by kernel_rfl)

end Go.Proofs.YtnllccjmbijjlaaGreat.Vm

/-
  The functions of the program compute what is printed of them.
-/
namespace Go.Proofs.YtnllccjmbijjlaaGreat.Vm
open Go.Proofs
noncomputable def tlv_Check_S (N : Nat) : Sig := .of [.cell false .str] [.cell false (.int .i64)] (fun a => tlv_Check N a)
theorem tlv_Check_spec (N : Nat) : Spec Tryz.prog 53 (tlv_Check_S N) := spec_of_exe (C := ctx Tryz.prog [(57, tlv_One_S N), (81, tlv_within_S N)] []) (L := ⟨[], []⟩) (fn := Tryz.f53) (N := N) (ctx_ok ⟨tlv_One_spec N, tlv_within_spec N, trivial⟩) (by kernel_rfl) (by kernel_rfl) (fun a => by kernel_rfl)

noncomputable def der_One_S (N : Nat) : Sig := .of [.cell false .str, .cell false (.int .i64)] [Sq2, .cell false (.int .i64)] (fun a => der_One N a.1 a.2)
theorem der_One_spec (N : Nat) : Spec Tryz.prog 37 (der_One_S N) := spec_of_exe (C := ctx Tryz.prog [(57, tlv_One_S N)] []) (L := ⟨[], []⟩) (fn := Tryz.f37) (N := N) (ctx_ok ⟨tlv_One_spec N, trivial⟩) (by kernel_rfl) (by kernel_rfl) (fun a => by kernel_rfl)

noncomputable def der_Contents_A (N : Nat) : Alt := .of [.cell false .str] [Sq4, .cell false (.int .i64)] [.cell false .ptr, .cell false (.int .i64)] (fun a => der_Contents N a)
theorem der_Contents_alt (N : Nat) : Spec Tryz.prog 38 (der_Contents_A N).1 ∧ Spec Tryz.prog 38 (der_Contents_A N).2.1 := alt_of_exe (C := ctx Tryz.prog [(40, tlv_List_S N)] []) (L := ⟨[], []⟩) (fn := Tryz.f38) (N := N) (ctx_ok ⟨tlv_List_spec N, trivial⟩) (by kernel_rfl) (by kernel_rfl) (fun a => by kernel_rfl)

def bundle_decodePart_ns : List (Nat × Nrm) := [(3, ⟨[10], [([10], 9, (.str .nil), 1004096)], [], [(1000000, 1004096)], []⟩), (46, ⟨[10, 33, 34, 35], [([10], 9, (.str .nil), 1000000)], [], [(43776, 1000000)], []⟩)]
def bundle_decodePart_L : Lk := ⟨[], [(46, ⟨[(10, .c (xo 1000000)), (33, .i), (34, .i), (35, .c x64)], [(0, .box [(xl Tq0)]), (1000000, .arr 9 false (.str .nil))]⟩, [(0, ⟨[(10, .c (xo 1004096))], [(0, .box [(xl Tq0)]), (1004096, .arr 9 false (.str .nil))]⟩)])]⟩
noncomputable def bundle_decodePart_S (N : Nat) : Sig := .of [Sq4, .cell false (.int .i64)] [Sq0, .cell false (.int .i64)] (fun a => bundle_decodePart N a.1 a.2)
theorem bundle_decodePart_spec (N : Nat) : Spec Tryz.prog 26 (bundle_decodePart_S N) := spec_of_exe (C := ctx Tryz.prog [(39, der_Reader_Has_S N), (40, tlv_List_S N)] bundle_decodePart_ns) (L := bundle_decodePart_L) (fn := Tryz.f26) (N := N) (ctx_ok ⟨der_Reader_Has_spec N, tlv_List_spec N, trivial⟩) (by kernel_rfl) (by kernel_rfl) (fun a => by kernel_rfl)

noncomputable def bundle_decodeHalf_S (N : Nat) : Sig := .of [Sq4, .cell false (.int .i64)] [.cell false .str, .cell false (.int .i64)] (fun a => bundle_decodeHalf N a.1 a.2)
theorem bundle_decodeHalf_spec (N : Nat) : Spec Tryz.prog 41 (bundle_decodeHalf_S N) := spec_of_exe (C := ctx Tryz.prog [(39, der_Reader_Has_S N), (57, tlv_One_S N)] []) (L := ⟨[], []⟩) (fn := Tryz.f41) (N := N) (ctx_ok ⟨der_Reader_Has_spec N, tlv_One_spec N, trivial⟩) (by kernel_rfl) (by kernel_rfl) (fun a => by kernel_rfl)

def ref07_CheckName_ns : List (Nat × Nrm) := [(3, ⟨[], [], [], [], []⟩), (18, ⟨[11, 12, 13], [], [], [], []⟩)]
def ref07_CheckName_L : Lk := ⟨[], [(18, ⟨[(11, .i), (12, .i), (13, .c x64)], []⟩, [(0, ⟨[], []⟩)])]⟩
noncomputable def ref07_CheckName_S (N : Nat) : Sig := .of [Sq7] [.cell false (.int .i64)] (fun a => ref07_CheckName N a)
theorem ref07_CheckName_spec (N : Nat) : Spec Tryz.prog 86 (ref07_CheckName_S N) := spec_of_exe (C := ctx Tryz.prog [(116, ref07_checkAttributes_S N)] ref07_CheckName_ns) (L := ref07_CheckName_L) (fn := Tryz.f86) (N := N) (ctx_ok ⟨ref07_checkAttributes_spec N, trivial⟩) (by kernel_rfl) (by kernel_rfl) (fun a => by kernel_rfl)

noncomputable def ref07_Mail_S (N : Nat) : Sig := .of [.cell false .str] [.cell false .bool] (fun a => ref07_Mail N a)
theorem ref07_Mail_spec (N : Nat) : Spec Tryz.prog 155 (ref07_Mail_S N) := spec_of_exe (C := ctx Tryz.prog [(162, ref07_parts_S N)] []) (L := ⟨[], []⟩) (fn := Tryz.f155) (N := N) (ctx_ok ⟨ref07_parts_spec N, trivial⟩) (by kernel_rfl) (by kernel_rfl) (fun a => by kernel_rfl)

def ref07_has_ns : List (Nat × Nrm) := [(3, ⟨[], [], [], [], []⟩), (10, ⟨[3, 7, 8, 9], [], [], [], []⟩)]
def ref07_has_L : Lk := ⟨[], [(10, ⟨[(3, .c (.c (.ptr 33536 0))), (7, .i), (8, .i), (9, .c x64)], [(33536, .box [xs, x64, xs])]⟩, [(0, ⟨[], []⟩)])]⟩
noncomputable def ref07_has_S (N : Nat) : Sig := .of [.cell false (.sl 144 Tq1), Sq11] [.cell false .bool] (fun a => ref07_has N a.1 a.2)
theorem ref07_has_spec (N : Nat) : Spec Tryz.prog 146 (ref07_has_S N) := spec_of_exe (C := ctx Tryz.prog [(160, ref01_MatchText_S N)] ref07_has_ns) (L := ref07_has_L) (fn := Tryz.f146) (N := N) (ctx_ok ⟨ref01_MatchText_spec N, trivial⟩) (by kernel_rfl) (by kernel_rfl) (fun a => by kernel_rfl)

end Go.Proofs.YtnllccjmbijjlaaGreat.Vm

/-
  The functions of the program compute what is printed of them.
-/
namespace Go.Proofs.YtnllccjmbijjlaaGreat.Vm
open Go.Proofs
noncomputable def ref14_whole_S (N : Nat) : Sig := .of [.cell false .str, .cell false (.int .i64)] [Sq2, .cell false (.int .i64)] (fun a => ref14_whole N a.1 a.2)
theorem ref14_whole_spec (N : Nat) : Spec Tryz.prog 68 (ref14_whole_S N) := spec_of_exe (C := ctx Tryz.prog [(82, ref01_One_S N)] []) (L := ⟨[], []⟩) (fn := Tryz.f68) (N := N) (ctx_ok ⟨ref01_One_spec N, trivial⟩) (by kernel_rfl) (by kernel_rfl) (fun a => by kernel_rfl)

def made_Name_ns : List (Nat × Nrm) := [(3, ⟨[2, 3], [], [], [(33637, 1012288), (1000000, 1012288)], []⟩), (11, ⟨[0, 2, 3, 4, 5], [([5], 144, Tq1, 1008192)], [], [(33637, 1008208), (1004096, 1008192), (1004112, 1008208)], []⟩), (14, ⟨[0, 2, 3, 4], [], [], [(33637, 1000000), (44288, 1000000)], []⟩), (30, ⟨[0, 2, 3, 4, 5, 6], [([5], 144, Tq1, 1004096)], [], [(33637, 1004112), (43008, 1004096), (1000000, 1004112)], []⟩)]
def made_Name_L : Lk := ⟨[], [(14, ⟨[(0, .c (.c (.ptr 0 0))), (2, .c (.c (.ptr 33280 0))), (3, .c (.c (.ptr 33536 0))), (4, .c x64)], [(0, .box [(xl (.int .i64 .nil)), x64]), (33280, .box [(xo 33281)]), (33281, .arr0 145 false (.sl 144 Tq1 .nil)), (33536, .box [(xo 1000000)]), (1000000, .arr 145 false (.sl 144 Tq1 .nil))]⟩, [(0, ⟨[(2, .c (.c (.ptr 33280 0))), (3, .c (.c (.ptr 33536 0)))], [(0, .box [(xl (.int .i64 .nil)), x64]), (33280, .box [(xo 33281)]), (33281, .arr0 145 false (.sl 144 Tq1 .nil)), (33536, .box [(xo 1012288)]), (1012288, .arr 145 false (.sl 144 Tq1 .nil))]⟩)]), (30, ⟨[(0, .c (.c (.ptr 0 0))), (2, .c (.c (.ptr 33280 0))), (3, .c (.c (.ptr 33536 0))), (4, .i), (5, .c (xo 1004096)), (6, .c x64)], [(0, .box [(xl (.int .i64 .nil)), x64]), (33280, .box [(xo 33281)]), (33281, .arr0 145 false (.sl 144 Tq1 .nil)), (33536, .box [(xo 1004112)]), (1004096, .arr 144 false Tq1), (1004112, .arr 145 false (.sl 144 Tq1 .nil))]⟩, [(2, ⟨[(0, .c (.c (.ptr 0 0))), (2, .c (.c (.ptr 33280 0))), (3, .c (.c (.ptr 33536 0))), (4, .i), (5, .c (xo 1008192))], [(0, .box [(xl (.int .i64 .nil)), x64]), (33280, .box [(xo 33281)]), (33281, .arr0 145 false (.sl 144 Tq1 .nil)), (33536, .box [(xo 1008208)]), (1008192, .arr 144 false Tq1), (1008208, .arr 145 false (.sl 144 Tq1 .nil))]⟩)])]⟩
noncomputable def made_Name_S (N : Nat) : Sig := .of [Sq6] [Sq7] (fun a => made_Name N a)
theorem made_Name_spec (N : Nat) : Spec Tryz.prog 50 (made_Name_S N) := spec_of_exe (C := ctx Tryz.prog [(14, made_Deck_Next_S N), (75, made_attribute_S N)] made_Name_ns) (L := made_Name_L) (fn := Tryz.f50) (N := N) (ctx_ok ⟨made_Deck_Next_spec N, made_attribute_spec N, trivial⟩) (by kernel_rfl) (by kernel_rfl) (fun a => by kernel_rfl)

def ref14_checkOIDs_ns : List (Nat × Nrm) := [(3, ⟨[], [], [], [], []⟩), (11, ⟨[0, 12, 13, 14], [], [], [], []⟩), (18, ⟨[0, 12, 13, 14], [], [], [], []⟩), (38, ⟨[0, 5, 6, 7, 12, 13, 14], [], [], [], []⟩)]
def ref14_checkOIDs_L : Lk := ⟨[], [(18, ⟨[(0, .i), (12, .i), (13, .i), (14, .c x64)], []⟩, [(0, ⟨[], []⟩)]), (38, ⟨[(0, .i), (5, .i), (6, .i), (7, .c x64), (12, .i), (13, .i), (14, .i)], []⟩, [(2, ⟨[(0, .i), (12, .i), (13, .i), (14, .i)], []⟩)])]⟩
noncomputable def ref14_checkOIDs_S (N : Nat) : Sig := .of [Sq0, .cell false (.int .i64)] [.cell false (.int .i64)] (fun a => ref14_checkOIDs N a.1 a.2)
theorem ref14_checkOIDs_spec (N : Nat) : Spec Tryz.prog 129 (ref14_checkOIDs_S N) := spec_of_exe (C := ctx Tryz.prog [(133, ref01_ValidOID_S N)] ref14_checkOIDs_ns) (L := ref14_checkOIDs_L) (fn := Tryz.f129) (N := N) (ctx_ok ⟨ref01_ValidOID_spec N, trivial⟩) (by kernel_rfl) (by kernel_rfl) (fun a => by kernel_rfl)

def ref14_checkMappings_ns : List (Nat × Nrm) := [(3, ⟨[], [], [], [], []⟩), (11, ⟨[0, 9, 10, 11], [], [], [], []⟩), (18, ⟨[0, 9, 10, 11], [], [], [], []⟩), (38, ⟨[0, 3, 4, 5, 9, 10, 11], [], [], [], []⟩)]
def ref14_checkMappings_L : Lk := ⟨[], [(18, ⟨[(0, .i), (9, .i), (10, .i), (11, .c x64)], []⟩, [(0, ⟨[], []⟩)]), (38, ⟨[(0, .i), (3, .i), (4, .c (.c (.ptr 33792 0))), (5, .c x64), (9, .i), (10, .i), (11, .i)], [(33792, .box [xs, xs])]⟩, [(2, ⟨[(0, .i), (9, .i), (10, .i), (11, .i)], []⟩)])]⟩
noncomputable def ref14_checkMappings_S (N : Nat) : Sig := .of [Sq15] [.cell false (.int .i64)] (fun a => ref14_checkMappings N a)
theorem ref14_checkMappings_spec (N : Nat) : Spec Tryz.prog 130 (ref14_checkMappings_S N) := spec_of_exe (C := ctx Tryz.prog [(133, ref01_ValidOID_S N)] ref14_checkMappings_ns) (L := ref14_checkMappings_L) (fn := Tryz.f130) (N := N) (ctx_ok ⟨ref01_ValidOID_spec N, trivial⟩) (by kernel_rfl) (by kernel_rfl) (fun a => by kernel_rfl)

noncomputable def made_Seed_S (N : Nat) : Sig := .of [.cell false (.int .i64)] [.cell false .str] (fun a => made_Seed N a)
theorem made_Seed_spec (N : Nat) : Spec Tryz.prog 76 (made_Seed_S N) := spec_of_exe (C := ctx Tryz.prog [(109, ref11_B4_S N), (108, ref01_Sum_S N)] []) (L := ⟨[], []⟩) (fn := Tryz.f76) (N := N) (ctx_ok ⟨ref11_B4_spec N, ref01_Sum_spec N, trivial⟩) (by kernel_rfl) (by kernel_rfl) (fun a => by kernel_rfl)

end Go.Proofs.YtnllccjmbijjlaaGreat.Vm

/-
  The functions of the program compute what is printed of them.
-/
namespace Go.Proofs.YtnllccjmbijjlaaGreat.Vm
open Go.Proofs
def ref07_attributes_ns : List (Nat × Nrm) := [(3, ⟨[3], [([3], 9, (.str .nil), 1004096)], [], [(1000000, 1004096)], []⟩), (14, ⟨[3, 6, 7, 8], [([3], 9, (.str .nil), 1000000)], [], [(39168, 1000000)], []⟩)]
def ref07_attributes_L : Lk := ⟨[], [(14, ⟨[(3, .c (xo 1000000)), (6, .i), (7, .i), (8, .c x64)], [(1000000, .arr 9 false (.str .nil))]⟩, [(0, ⟨[(3, .c (xo 1004096))], [(1004096, .arr 9 false (.str .nil))]⟩)])]⟩
noncomputable def ref07_attributes_S (N : Nat) : Sig := .of [.cell false (.sl 144 Tq1)] [Sq0] (fun a => ref07_attributes N a)
theorem ref07_attributes_spec (N : Nat) : Spec Tryz.prog 91 (ref07_attributes_S N) := spec_of_exe (C := ctx Tryz.prog [(102, ref07_OID_S N), (74, ref07_Wrap_S N)] ref07_attributes_ns) (L := ref07_attributes_L) (fn := Tryz.f91) (N := N) (ctx_ok ⟨ref07_OID_spec N, ref07_Wrap_spec N, trivial⟩) (by kernel_rfl) (by kernel_rfl) (fun a => by kernel_rfl)

def ref14_checkEach_ns : List (Nat × Nrm) := [(3, ⟨[], [], [], [], []⟩), (10, ⟨[0, 8, 9, 10], [], [], [], []⟩)]
def ref14_checkEach_L : Lk := ⟨[], [(10, ⟨[(0, .i), (8, .i), (9, .i), (10, .c x64)], []⟩, [(0, ⟨[], []⟩)])]⟩
noncomputable def ref14_checkEach_S (N : Nat) : Sig := .of [.cell false (.sl 158 Tq5)] [.cell false (.int .i64)] (fun a => ref14_checkEach N a)
theorem ref14_checkEach_spec (N : Nat) : Spec Tryz.prog 144 (ref14_checkEach_S N) := spec_of_exe (C := ctx Tryz.prog [(133, ref01_ValidOID_S N), (135, ref14_Find_S N), (54, ref01_Check_S N)] ref14_checkEach_ns) (L := ref14_checkEach_L) (fn := Tryz.f144) (N := N) (ctx_ok ⟨ref01_ValidOID_spec N, ref14_Find_spec N, ref01_Check_spec N, trivial⟩) (by kernel_rfl) (by kernel_rfl) (fun a => by kernel_rfl)

noncomputable def ref14_Algorithm_S (N : Nat) : Sig := .of [] [.cell false .str] (fun _ => ref14_Algorithm N)
theorem ref14_Algorithm_spec (N : Nat) : Spec Tryz.prog 67 (ref14_Algorithm_S N) := spec_of_exe (C := ctx Tryz.prog [(102, ref07_OID_S N), (74, ref07_Wrap_S N)] []) (L := ⟨[], []⟩) (fn := Tryz.f67) (N := N) (ctx_ok ⟨ref07_OID_spec N, ref07_Wrap_spec N, trivial⟩) (by kernel_rfl) (by kernel_rfl) (fun a => by kernel_rfl)

noncomputable def made_General_S (N : Nat) : Sig := .of [Sq6] [Sq9] (fun a => made_General N a)
theorem made_General_spec (N : Nat) : Spec Tryz.prog 46 (made_General_S N) := spec_of_exe (C := ctx Tryz.prog [(14, made_Deck_Next_S N), (50, made_Name_S N)] []) (L := ⟨[], []⟩) (fn := Tryz.f46) (N := N) (ctx_ok ⟨made_Deck_Next_spec N, made_Name_spec N, trivial⟩) (by kernel_rfl) (by kernel_rfl) (fun a => by kernel_rfl)

noncomputable def made_Key_S (N : Nat) : Sig := .of [Sq6] [Sq2] (fun a => made_Key N a)
theorem made_Key_spec (N : Nat) : Spec Tryz.prog 51 (made_Key_S N) := spec_of_exe (C := ctx Tryz.prog [(14, made_Deck_Next_S N), (76, made_Seed_S N)] []) (L := ⟨[], []⟩) (fn := Tryz.f51) (N := N) (ctx_ok ⟨made_Deck_Next_spec N, made_Seed_spec N, trivial⟩) (by kernel_rfl) (by kernel_rfl) (fun a => by kernel_rfl)

noncomputable def made_Base_S (N : Nat) : Sig := .of [Sq6] [Sq9] (fun a => made_Base N a)
theorem made_Base_spec (N : Nat) : Spec Tryz.prog 111 (made_Base_S N) := spec_of_exe (C := ctx Tryz.prog [(14, made_Deck_Next_S N), (50, made_Name_S N)] []) (L := ⟨[], []⟩) (fn := Tryz.f111) (N := N) (ctx_ok ⟨made_Deck_Next_spec N, made_Name_spec N, trivial⟩) (by kernel_rfl) (by kernel_rfl) (fun a => by kernel_rfl)

noncomputable def ref14_sequence_S (N : Nat) : Sig := .of [.cell false .str] [.cell false (.int .i64)] (fun a => ref14_sequence N a)
theorem ref14_sequence_spec (N : Nat) : Spec Tryz.prog 35 (ref14_sequence_S N) := spec_of_exe (C := ctx Tryz.prog [(54, ref01_Check_S N)] []) (L := ⟨[], []⟩) (fn := Tryz.f35) (N := N) (ctx_ok ⟨ref01_Check_spec N, trivial⟩) (by kernel_rfl) (by kernel_rfl) (fun a => by kernel_rfl)

end Go.Proofs.YtnllccjmbijjlaaGreat.Vm

/-
  The functions of the program compute what is printed of them.
-/
namespace Go.Proofs.YtnllccjmbijjlaaGreat.Vm
open Go.Proofs
noncomputable def bundle_checkOne_S (N : Nat) : Sig := .of [.cell false .str] [.cell false (.int .i64)] (fun a => bundle_checkOne N a)
theorem bundle_checkOne_spec (N : Nat) : Spec Tryz.prog 33 (bundle_checkOne_S N) := spec_of_exe (C := ctx Tryz.prog [(53, tlv_Check_S N)] []) (L := ⟨[], []⟩) (fn := Tryz.f33) (N := N) (ctx_ok ⟨tlv_Check_spec N, trivial⟩) (by kernel_rfl) (by kernel_rfl) (fun a => by kernel_rfl)

noncomputable def der_Open_A (N : Nat) : Alt := .of [.cell false .str, .cell false (.int .i64)] [Sq4, .cell false (.int .i64)] [.cell false .ptr, .cell false (.int .i64)] (fun a => der_Open N a.1 a.2)
theorem der_Open_alt (N : Nat) : Spec Tryz.prog 25 (der_Open_A N).1 ∧ Spec Tryz.prog 25 (der_Open_A N).2.1 := alt_of_exe (C := ctx Tryz.prog [(37, der_One_S N)] [] [(38, der_Contents_A N)]) (L := ⟨[], []⟩) (fn := Tryz.f25) (N := N) (ctx_ok ⟨der_One_spec N, trivial⟩ ⟨der_Contents_alt N, trivial⟩) (by kernel_rfl) (by kernel_rfl) (fun a => by kernel_rfl)

noncomputable def ref07_MailBase_S (N : Nat) : Sig := .of [.cell false .str] [.cell false .bool] (fun a => ref07_MailBase N a)
theorem ref07_MailBase_spec (N : Nat) : Spec Tryz.prog 154 (ref07_MailBase_S N) := spec_of_exe (C := ctx Tryz.prog [(155, ref07_Mail_S N), (161, ref07_DNS_S N)] []) (L := ⟨[], []⟩) (fn := Tryz.f154) (N := N) (ctx_ok ⟨ref07_Mail_spec N, ref07_DNS_spec N, trivial⟩) (by kernel_rfl) (by kernel_rfl) (fun a => by kernel_rfl)

def ref07_matchRDN_ns : List (Nat × Nrm) := [(3, ⟨[], [], [], [], []⟩), (18, ⟨[0, 1, 12, 13], [], [], [], []⟩)]
def ref07_matchRDN_L : Lk := ⟨[], [(18, ⟨[(0, .i), (1, .i), (12, .i), (13, .c x64)], []⟩, [(0, ⟨[], []⟩)])]⟩
noncomputable def ref07_matchRDN_S (N : Nat) : Sig := .of [.cell false (.sl 144 Tq1), .cell false (.sl 144 Tq1)] [.cell false .bool] (fun a => ref07_matchRDN N a.1 a.2)
theorem ref07_matchRDN_spec (N : Nat) : Spec Tryz.prog 127 (ref07_matchRDN_S N) := spec_of_exe (C := ctx Tryz.prog [(146, ref07_has_S N)] ref07_matchRDN_ns) (L := ref07_matchRDN_L) (fn := Tryz.f127) (N := N) (ctx_ok ⟨ref07_has_spec N, trivial⟩) (by kernel_rfl) (by kernel_rfl) (fun a => by kernel_rfl)

def ref07_EncodeName_ns : List (Nat × Nrm) := [(3, ⟨[5], [], [], [], []⟩), (26, ⟨[5, 14, 15, 16], [], [], [], []⟩)]
def ref07_EncodeName_L : Lk := ⟨[], [(26, ⟨[(5, .c xs), (14, .i), (15, .i), (16, .c x64)], []⟩, [(0, ⟨[(5, .c xs)], []⟩)])]⟩
noncomputable def ref07_EncodeName_S (N : Nat) : Sig := .of [Sq7] [.cell false .str, .cell false (.int .i64)] (fun a => ref07_EncodeName N a)
theorem ref07_EncodeName_spec (N : Nat) : Spec Tryz.prog 60 (ref07_EncodeName_S N) := spec_of_exe (C := ctx Tryz.prog [(86, ref07_CheckName_S N), (91, ref07_attributes_S N), (90, ref01_Order_S N), (74, ref07_Wrap_S N)] ref07_EncodeName_ns) (L := ref07_EncodeName_L) (fn := Tryz.f60) (N := N) (ctx_ok ⟨ref07_CheckName_spec N, ref07_attributes_spec N, ref01_Order_spec N, ref07_Wrap_spec N, trivial⟩) (by kernel_rfl) (by kernel_rfl) (fun a => by kernel_rfl)

noncomputable def ref14_CheckExtensions_S (N : Nat) : Sig := .of [.cell false (.sl 158 Tq5)] [.cell false (.int .i64)] (fun a => ref14_CheckExtensions N a)
theorem ref14_CheckExtensions_spec (N : Nat) : Spec Tryz.prog 123 (ref14_CheckExtensions_S N) := spec_of_exe (C := ctx Tryz.prog [(144, ref14_checkEach_S N)] []) (L := ⟨[], []⟩) (fn := Tryz.f123) (N := N) (ctx_ok ⟨ref14_checkEach_spec N, trivial⟩) (by kernel_rfl) (by kernel_rfl) (fun a => by kernel_rfl)

noncomputable def ref14_Seal_S (N : Nat) : Sig := .of [.cell false .str, .cell false .str] [.cell false .str, .cell false (.int .i64)] (fun a => ref14_Seal N a.1 a.2)
theorem ref14_Seal_spec (N : Nat) : Spec Tryz.prog 43 (ref14_Seal_S N) := spec_of_exe (C := ctx Tryz.prog [(68, ref14_whole_S N), (63, ref07_Fit_S N), (67, ref14_Algorithm_S N)] []) (L := ⟨[], []⟩) (fn := Tryz.f43) (N := N) (ctx_ok ⟨ref14_whole_spec N, ref07_Fit_spec N, ref14_Algorithm_spec N, trivial⟩) (by kernel_rfl) (by kernel_rfl) (fun a => by kernel_rfl)

def made_points_ns : List (Nat × Nrm) := [(3, ⟨[3], [([3], 147, Tq3, 1008192)], [], [(1000000, 1008192)], []⟩), (14, ⟨[0, 3, 4], [([3], 147, Tq3, 1000000)], [], [(41216, 1000000)], []⟩), (33, ⟨[0, 3, 4, 5], [([3], 147, Tq3, 1004096)], [(some 34048, 3, (.sl 144 Tq1 .nil))], [(1000000, 1004096)], []⟩)]
def made_points_L : Lk := ⟨[(33, ⟨[(0, .c (.c (.ptr 0 0))), (3, .c (xo 1004096)), (4, .i), (5, .c (.c (.ptr 34048 0)))], [(0, .box [(xl (.int .i64 .nil)), x64]), (34048, .box [(xo 36608), x64, xb, (xl (.sl 144 Tq1 .nil))]), (36608, .arr 117 false Tq2), (1004096, .arr 147 false Tq3)]⟩)], [(14, ⟨[(0, .c (.c (.ptr 0 0))), (3, .c (xo 1000000)), (4, .c x64)], [(0, .box [(xl (.int .i64 .nil)), x64]), (1000000, .arr 147 false Tq3)]⟩, [(0, ⟨[(3, .c (xo 1008192))], [(0, .box [(xl (.int .i64 .nil)), x64]), (1008192, .arr 147 false Tq3)]⟩)])]⟩
noncomputable def made_points_S (N : Nat) : Sig := .of [Sq6] [.cell false (.sl 147 Tq3)] (fun a => made_points N a)
theorem made_points_spec (N : Nat) : Spec Tryz.prog 47 (made_points_S N) := spec_of_exe (C := ctx Tryz.prog [(14, made_Deck_Next_S N), (46, made_General_S N), (44, made_Authority_S N)] made_points_ns) (L := made_points_L) (fn := Tryz.f47) (N := N) (ctx_ok ⟨made_Deck_Next_spec N, made_General_spec N, made_Authority_spec N, trivial⟩) (by kernel_rfl) (by kernel_rfl) (fun a => by kernel_rfl)

end Go.Proofs.YtnllccjmbijjlaaGreat.Vm

/-
  The functions of the program compute what is printed of them.
-/
namespace Go.Proofs.YtnllccjmbijjlaaGreat.Vm
open Go.Proofs
noncomputable def ref14_EncodeKey_S (N : Nat) : Sig := .of [Sq2] [.cell false .str, .cell false (.int .i64)] (fun a => ref14_EncodeKey N a)
theorem ref14_EncodeKey_spec (N : Nat) : Spec Tryz.prog 72 (ref14_EncodeKey_S N) := spec_of_exe (C := ctx Tryz.prog [(104, ref11_CheckKey_S N), (67, ref14_Algorithm_S N), (106, ref14_raw_S N), (74, ref07_Wrap_S N)] []) (L := ⟨[], []⟩) (fn := Tryz.f72) (N := N) (ctx_ok ⟨ref11_CheckKey_spec N, ref14_Algorithm_spec N, ref14_raw_spec N, ref07_Wrap_spec N, trivial⟩) (by kernel_rfl) (by kernel_rfl) (fun a => by kernel_rfl)

def made_Subtrees_ns : List (Nat × Nrm) := [(3, ⟨[0, 2, 3], [], [], [(33637, 1004096), (1000000, 1004096)], []⟩), (11, ⟨[0, 2, 3], [], [], [(33638, 1012288), (1008192, 1012288)], []⟩), (14, ⟨[0, 2, 3, 4], [], [], [(33637, 1000000), (37376, 1000000)], []⟩), (30, ⟨[0, 2, 3, 5], [], [], [(33638, 1008192), (40704, 1008192)], []⟩)]
def made_Subtrees_L : Lk := ⟨[], [(14, ⟨[(0, .c (.c (.ptr 0 0))), (2, .c (.c (.ptr 33280 0))), (3, .c (.c (.ptr 33536 0))), (4, .c x64)], [(0, .box [(xl (.int .i64 .nil)), x64]), (33280, .box [(xo 33281), (xo 33282)]), (33281, .arr0 117 false Tq2), (33282, .arr0 117 false Tq2), (33536, .box [(xo 1000000), (xo 33638)]), (33638, .arr0 117 false Tq2), (1000000, .arr 117 false Tq2)]⟩, [(0, ⟨[(0, .c (.c (.ptr 0 0))), (2, .c (.c (.ptr 33280 0))), (3, .c (.c (.ptr 33536 0)))], [(0, .box [(xl (.int .i64 .nil)), x64]), (33280, .box [(xo 33281), (xo 33282)]), (33281, .arr0 117 false Tq2), (33282, .arr0 117 false Tq2), (33536, .box [(xo 1004096), (xo 33638)]), (33638, .arr0 117 false Tq2), (1004096, .arr 117 false Tq2)]⟩)]), (30, ⟨[(0, .c (.c (.ptr 0 0))), (2, .c (.c (.ptr 33280 0))), (3, .c (.c (.ptr 33536 0))), (5, .c x64)], [(0, .box [(xl (.int .i64 .nil)), x64]), (33280, .box [(xo 33281), (xo 33282)]), (33281, .arr0 117 false Tq2), (33282, .arr0 117 false Tq2), (33536, .box [(xo 1004096), (xo 1008192)]), (1004096, .arr 117 false Tq2), (1008192, .arr 117 false Tq2)]⟩, [(2, ⟨[(0, .c (.c (.ptr 0 0))), (2, .c (.c (.ptr 33280 0))), (3, .c (.c (.ptr 33536 0)))], [(0, .box [(xl (.int .i64 .nil)), x64]), (33280, .box [(xo 33281), (xo 33282)]), (33281, .arr0 117 false Tq2), (33282, .arr0 117 false Tq2), (33536, .box [(xo 1004096), (xo 1012288)]), (1004096, .arr 117 false Tq2), (1012288, .arr 117 false Tq2)]⟩)])]⟩
noncomputable def made_Subtrees_S (N : Nat) : Sig := .of [Sq6] [Sq16] (fun a => made_Subtrees N a)
theorem made_Subtrees_spec (N : Nat) : Spec Tryz.prog 80 (made_Subtrees_S N) := spec_of_exe (C := ctx Tryz.prog [(14, made_Deck_Next_S N), (111, made_Base_S N)] made_Subtrees_ns) (L := made_Subtrees_L) (fn := Tryz.f80) (N := N) (ctx_ok ⟨made_Deck_Next_spec N, made_Base_spec N, trivial⟩) (by kernel_rfl) (by kernel_rfl) (fun a => by kernel_rfl)

def ref14_CheckBundle_ns : List (Nat × Nrm) := [(3, ⟨[1], [], [], [], []⟩), (11, ⟨[1, 33, 34, 35], [], [], [], []⟩), (18, ⟨[1, 33, 34, 35], [], [], [], []⟩), (19, ⟨[], [], [], [], []⟩), (27, ⟨[53, 54, 55], [], [], [], []⟩), (30, ⟨[1, 33, 34, 35, 39, 40, 41], [], [], [], []⟩), (62, ⟨[53, 54, 55], [], [], [], []⟩), (82, ⟨[53, 54, 55, 71, 72, 73], [], [], [], []⟩)]
def ref14_CheckBundle_L : Lk := ⟨[], [(18, ⟨[(1, .c (.c (.ptr 33024 0))), (33, .c (xo 41216)), (34, .i), (35, .c x64)], [(33024, .box [(xl (.str .nil)), (xl (.str .nil)), (xl (.str (.str .nil)))]), (41216, .arr 22 false (.sl 9 (.str .nil) .nil))]⟩, [(0, ⟨[(1, .c (.c (.ptr 33024 0)))], [(33024, .box [(xl (.str .nil)), (xl (.str .nil)), (xl (.str (.str .nil)))])]⟩)]), (30, ⟨[(1, .c (.c (.ptr 33024 0))), (33, .c (xo 41216)), (34, .i), (35, .i), (39, .i), (40, .i), (41, .c x64)], [(33024, .box [(xl (.str .nil)), (xl (.str .nil)), (xl (.str (.str .nil)))]), (41216, .arr 22 false (.sl 9 (.str .nil) .nil))]⟩, [(2, ⟨[(1, .c (.c (.ptr 33024 0))), (33, .c (xo 41216)), (34, .i), (35, .i)], [(33024, .box [(xl (.str .nil)), (xl (.str .nil)), (xl (.str (.str .nil)))]), (41216, .arr 22 false (.sl 9 (.str .nil) .nil))]⟩)]), (62, ⟨[(53, .i), (54, .i), (55, .c x64)], []⟩, [(4, ⟨[], []⟩)]), (82, ⟨[(53, .i), (54, .i), (55, .i), (71, .c (xo 50944)), (72, .i), (73, .c x64)], [(50944, .arr 9 false (.str .nil))]⟩, [(6, ⟨[(53, .i), (54, .i), (55, .i)], []⟩)])]⟩
noncomputable def ref14_CheckBundle_S (N : Nat) : Sig := .of [Sq1] [.cell false (.int .i64)] (fun a => ref14_CheckBundle N a)
theorem ref14_CheckBundle_spec (N : Nat) : Spec Tryz.prog 20 (ref14_CheckBundle_S N) := spec_of_exe (C := ctx Tryz.prog [(35, ref14_sequence_S N)] ref14_CheckBundle_ns) (L := ref14_CheckBundle_L) (fn := Tryz.f20) (N := N) (ctx_ok ⟨ref14_sequence_spec N, trivial⟩) (by kernel_rfl) (by kernel_rfl) (fun a => by kernel_rfl)

end Go.Proofs.YtnllccjmbijjlaaGreat.Vm

/-
  The functions of the program compute what is printed of them.
-/
namespace Go.Proofs.YtnllccjmbijjlaaGreat.Vm
open Go.Proofs
def bundle_checkPair_ns : List (Nat × Nrm) := [(3, ⟨[], [], [], [], []⟩), (18, ⟨[18, 19, 20], [], [], [], []⟩)]
def bundle_checkPair_L : Lk := ⟨[], [(18, ⟨[(18, .c (xo 37376)), (19, .i), (20, .c x64)], [(37376, .arr 9 false (.str .nil))]⟩, [(0, ⟨[], []⟩)])]⟩
noncomputable def bundle_checkPair_S (N : Nat) : Sig := .of [Sq3] [.cell false (.int .i64)] (fun a => bundle_checkPair N a)
theorem bundle_checkPair_spec (N : Nat) : Spec Tryz.prog 34 (bundle_checkPair_S N) := spec_of_exe (C := ctx Tryz.prog [(33, bundle_checkOne_S N)] bundle_checkPair_ns) (L := bundle_checkPair_L) (fn := Tryz.f34) (N := N) (ctx_ok ⟨bundle_checkOne_spec N, trivial⟩) (by kernel_rfl) (by kernel_rfl) (fun a => by kernel_rfl)

noncomputable def bundle_decodePair_S (N : Nat) : Sig := .of [.cell false .str] [Sq3, .cell false (.int .i64)] (fun a => bundle_decodePair N a)
theorem bundle_decodePair_spec (N : Nat) : Spec Tryz.prog 27 (bundle_decodePair_S N) := spec_of_exe (C := ctx Tryz.prog [(41, bundle_decodeHalf_S N), (28, der_Reader_Done_S N)] [] [(25, der_Open_A N)]) (L := ⟨[], []⟩) (fn := Tryz.f27) (N := N) (ctx_ok ⟨bundle_decodeHalf_spec N, der_Reader_Done_spec N, trivial⟩ ⟨der_Open_alt N, trivial⟩) (by kernel_rfl) (by kernel_rfl) (fun a => by kernel_rfl)

def ref07_CheckGeneral_ns : List (Nat × Nrm) := [(53, ⟨[2, 5], [], [], [], []⟩)]
def ref07_CheckGeneral_L : Lk := ⟨[(53, ⟨[(2, .c (.c (.ptr 33280 0))), (5, .c xb)], [(33280, .box [x64, xs, (xl (.sl 144 Tq1 .nil))])]⟩)], []⟩
noncomputable def ref07_CheckGeneral_S (N : Nat) : Sig := .of [Sq9, .cell false .bool] [.cell false (.int .i64)] (fun a => ref07_CheckGeneral N a.1 a.2)
theorem ref07_CheckGeneral_spec (N : Nat) : Spec Tryz.prog 142 (ref07_CheckGeneral_S N) := spec_of_exe (C := ctx Tryz.prog [(154, ref07_MailBase_S N), (155, ref07_Mail_S N), (156, ref07_Base_S N), (157, ref07_Pattern_S N), (158, ref07_Range_S N), (159, ref07_Address_S N), (86, ref07_CheckName_S N)] ref07_CheckGeneral_ns) (L := ref07_CheckGeneral_L) (fn := Tryz.f142) (N := N) (ctx_ok ⟨ref07_MailBase_spec N, ref07_Mail_spec N, ref07_Base_spec N, ref07_Pattern_spec N, ref07_Range_spec N, ref07_Address_spec N, ref07_CheckName_spec N, trivial⟩) (by kernel_rfl) (by kernel_rfl) (fun a => by kernel_rfl)

def ref07_WithinName_ns : List (Nat × Nrm) := [(3, ⟨[], [], [], [], []⟩), (18, ⟨[2, 3, 15, 16], [], [], [], []⟩)]
def ref07_WithinName_L : Lk := ⟨[], [(18, ⟨[(2, .c (.c (.ptr 33280 0))), (3, .c (.c (.ptr 33536 0))), (15, .i), (16, .c x64)], [(33280, .box [(xl (.sl 144 Tq1 .nil))]), (33536, .box [(xl (.sl 144 Tq1 .nil))])]⟩, [(0, ⟨[], []⟩)])]⟩
noncomputable def ref07_WithinName_S (N : Nat) : Sig := .of [Sq7, Sq7] [.cell false .bool] (fun a => ref07_WithinName N a.1 a.2)
theorem ref07_WithinName_spec (N : Nat) : Spec Tryz.prog 103 (ref07_WithinName_S N) := spec_of_exe (C := ctx Tryz.prog [(127, ref07_matchRDN_S N)] ref07_WithinName_ns) (L := ref07_WithinName_L) (fn := Tryz.f103) (N := N) (ctx_ok ⟨ref07_matchRDN_spec N, trivial⟩) (by kernel_rfl) (by kernel_rfl) (fun a => by kernel_rfl)

def ref14_EncodeExtensions_ns : List (Nat × Nrm) := [(3, ⟨[5], [], [], [], []⟩), (26, ⟨[5, 17, 18, 19], [], [], [], []⟩), (45, ⟨[5, 7, 8, 17, 18, 19], [], [], [], []⟩)]
def ref14_EncodeExtensions_L : Lk := ⟨[(45, ⟨[(5, .i), (7, .c (.c (.ptr 34560 0))), (8, .c xs), (17, .i), (18, .i), (19, .i)], [(34560, .box [xs, xb, xs])]⟩)], [(26, ⟨[(5, .c xs), (17, .i), (18, .i), (19, .c x64)], []⟩, [(0, ⟨[(5, .c xs)], []⟩)])]⟩
noncomputable def ref14_EncodeExtensions_S (N : Nat) : Sig := .of [.cell false (.sl 158 Tq5)] [.cell false .str, .cell false (.int .i64)] (fun a => ref14_EncodeExtensions N a)
theorem ref14_EncodeExtensions_spec (N : Nat) : Spec Tryz.prog 96 (ref14_EncodeExtensions_S N) := spec_of_exe (C := ctx Tryz.prog [(123, ref14_CheckExtensions_S N), (124, ref01_PutBoolean_S N), (74, ref07_Wrap_S N), (63, ref07_Fit_S N), (102, ref07_OID_S N)] ref14_EncodeExtensions_ns) (L := ref14_EncodeExtensions_L) (fn := Tryz.f96) (N := N) (ctx_ok ⟨ref14_CheckExtensions_spec N, ref01_PutBoolean_spec N, ref07_Wrap_spec N, ref07_Fit_spec N, ref07_OID_spec N, trivial⟩) (by kernel_rfl) (by kernel_rfl) (fun a => by kernel_rfl)

def made_Info_ns : List (Nat × Nrm) := [(3, ⟨[2, 3], [], [], [], []⟩), (14, ⟨[0, 2, 3, 4], [], [], [], []⟩), (41, ⟨[0, 2, 3, 4, 13, 27], [], [], [], []⟩)]
def made_Info_L : Lk := ⟨[(41, ⟨[(0, .c (.c (.ptr 0 0))), (2, .c (.c (.ptr 33280 0))), (3, .c (.c (.ptr 33536 0))), (4, .i), (13, .i), (27, .c xb)], [(0, .box [(xl (.int .i64 .nil)), x64]), (33280, .box [(.c (.bool false)), (.c (.bool false)), (.c (.int .i64 0)), (.c (.int .i64 0)), (xo 33285), (xo 33286), (xo 33287), (.c (.int .i64 0)), (.c (.int .i64 0)), (.c (.int .i64 0)), (xo 33291), (.c (.bool false)), (xo 33293), (xo 33294), (.c (.str ([] : Bs))), (.c (.str ([] : Bs))), (xo 33297), (xo 33298), (xo 33299)]), (33285, .arr0 9 false (.str .nil)), (33286, .arr0 9 false (.str .nil)), (33287, .arr0 181 false (.str (.str .nil))), (33291, .arr0 117 false Tq2), (33293, .arr0 117 false Tq2), (33294, .arr0 117 false Tq2), (33297, .arr0 147 false Tq3), (33298, .arr0 147 false Tq3), (33299, .arr0 158 false Tq5), (33536, .box [xb, xb, x64, x64, (xl (.str .nil)), (xl (.str .nil)), (xl (.str (.str .nil))), x64, x64, x64, (xl Tq2), xb, (xl Tq2), (xl Tq2), xs, xs, (xl Tq3), (xl Tq3), (xl Tq5)])]⟩)], [(14, ⟨[(0, .c (.c (.ptr 0 0))), (2, .c (.c (.ptr 33280 0))), (3, .c (.c (.ptr 33536 0))), (4, .c x64)], [(0, .box [(xl (.int .i64 .nil)), x64]), (33280, .box [(.c (.bool false)), (.c (.bool false)), (.c (.int .i64 0)), (.c (.int .i64 0)), (xo 33285), (xo 33286), (xo 33287), (.c (.int .i64 0)), (.c (.int .i64 0)), (.c (.int .i64 0)), (xo 33291), (.c (.bool false)), (xo 33293), (xo 33294), (.c (.str ([] : Bs))), (.c (.str ([] : Bs))), (xo 33297), (xo 33298), (xo 33299)]), (33285, .arr0 9 false (.str .nil)), (33286, .arr0 9 false (.str .nil)), (33287, .arr0 181 false (.str (.str .nil))), (33291, .arr0 117 false Tq2), (33293, .arr0 117 false Tq2), (33294, .arr0 117 false Tq2), (33297, .arr0 147 false Tq3), (33298, .arr0 147 false Tq3), (33299, .arr0 158 false Tq5), (33536, .box [xb, xb, x64, x64, (xl (.str .nil)), (xl (.str .nil)), (xl (.str (.str .nil))), x64, x64, x64, (xl Tq2), xb, (xl Tq2), (xl Tq2), xs, xs, (xl Tq3), (xl Tq3), (xl Tq5)])]⟩, [(0, ⟨[(2, .c (.c (.ptr 33280 0))), (3, .c (.c (.ptr 33536 0)))], [(0, .box [(xl (.int .i64 .nil)), x64]), (33280, .box [(.c (.bool false)), (.c (.bool false)), (.c (.int .i64 0)), (.c (.int .i64 0)), (xo 33285), (xo 33286), (xo 33287), (.c (.int .i64 0)), (.c (.int .i64 0)), (.c (.int .i64 0)), (xo 33291), (.c (.bool false)), (xo 33293), (xo 33294), (.c (.str ([] : Bs))), (.c (.str ([] : Bs))), (xo 33297), (xo 33298), (xo 33299)]), (33285, .arr0 9 false (.str .nil)), (33286, .arr0 9 false (.str .nil)), (33287, .arr0 181 false (.str (.str .nil))), (33291, .arr0 117 false Tq2), (33293, .arr0 117 false Tq2), (33294, .arr0 117 false Tq2), (33297, .arr0 147 false Tq3), (33298, .arr0 147 false Tq3), (33299, .arr0 158 false Tq5), (33536, .box [xb, xb, x64, x64, (xl (.str .nil)), (xl (.str .nil)), (xl (.str (.str .nil))), x64, x64, x64, (xl Tq2), xb, (xl Tq2), (xl Tq2), xs, xs, (xl Tq3), (xl Tq3), (xl Tq5)])]⟩)])]⟩
noncomputable def made_Info_S (N : Nat) : Sig := .of [Sq6] [Sq17] (fun a => made_Info N a)
theorem made_Info_spec (N : Nat) : Spec Tryz.prog 52 (made_Info_S N) := spec_of_exe (C := ctx Tryz.prog [(77, ref14_None_S N), (14, made_Deck_Next_S N), (78, made_oids_S N), (79, made_mappings_S N), (46, made_General_S N), (80, made_Subtrees_S N), (47, made_points_S N)] made_Info_ns) (L := made_Info_L) (fn := Tryz.f52) (N := N) (ctx_ok ⟨ref14_None_spec N, made_Deck_Next_spec N, made_oids_spec N, made_mappings_spec N, made_General_spec N, made_Subtrees_spec N, made_points_spec N, trivial⟩) (by kernel_rfl) (by kernel_rfl) (fun a => by kernel_rfl)

def ref14_Merge_ns : List (Nat × Nrm) := [(3, ⟨[2, 4], [], [], [(33893, 1036896), (33894, 1036880), (33895, 1036864), (1000000, 1036864), (1000016, 1036880), (1000032, 1036896)], [1036880, 1036896]⟩), (11, ⟨[2, 4, 6, 18, 19, 20], [], [], [(33893, 1008192), (33894, 1008224), (33895, 1008208), (1004096, 1008192), (1004112, 1008208), (1004128, 1008224)], [1008192, 1008224]⟩), (14, ⟨[2, 4, 18, 19, 20], [], [], [(33893, 1000032), (33894, 1000016), (33895, 1000000), (1008192, 1000032), (1016384, 1000016), (1032768, 1000000)], [1000016, 1000032]⟩), (19, ⟨[2, 4, 6, 18, 19, 20], [], [], [(33894, 1016384), (33895, 1016400), (1012288, 1016384), (1012304, 1016400)], [1016384]⟩), (26, ⟨[2, 4, 6, 18, 19, 20, 25, 26, 27], [], [], [(33893, 1004096), (33894, 1004128), (33895, 1004112), (43008, 1004096), (1000000, 1004112), (1000016, 1004128), (1000032, 1004096)], [1004096, 1004128]⟩), (27, ⟨[2, 4, 18, 19, 20], [], [], [(33895, 1032768), (1020480, 1032768)], []⟩), (35, ⟨[2, 4, 12, 13, 18, 19, 20, 63, 64, 65], [], [], [(33895, 1028672), (1024576, 1028672)], []⟩), (50, ⟨[2, 4, 6, 18, 19, 20, 44, 45, 46], [], [], [(33894, 1012288), (33895, 1012304), (47872, 1012288), (1008208, 1012304), (1008224, 1012288)], [1012288]⟩), (74, ⟨[2, 4, 18, 19, 20, 63, 64, 65], [], [], [(33895, 1020480), (55552, 1020480), (1016400, 1020480), (1028672, 1020480)], []⟩), (90, ⟨[2, 4, 12, 13, 18, 19, 20, 63, 64, 65, 70, 71, 72], [], [], [(33895, 1024576), (1020480, 1024576)], []⟩)]
def ref14_Merge_L : Lk := ⟨[], [(14, ⟨[(2, .c (.c (.ptr 33280 0))), (4, .c (.c (.ptr 33792 0))), (18, .i), (19, .i), (20, .c x64)], [(33280, .box [(xo 33281), (xo 33282), (xo 33283)]), (33281, .arr0 9 false (.str .nil)), (33282, .arr0 9 false (.str .nil)), (33283, .arr0 41 false (.str (.str .nil))), (33792, .box [(xo 1000032), (xo 1000016), (xo 1000000)]), (1000000, .arr 41 false (.str (.str .nil))), (1000016, .arr 9 true (.str .nil)), (1000032, .arr 9 true (.str .nil))]⟩, [(0, ⟨[(2, .c (.c (.ptr 33280 0))), (4, .c (.c (.ptr 33792 0)))], [(33280, .box [(xo 33281), (xo 33282), (xo 33283)]), (33281, .arr0 9 false (.str .nil)), (33282, .arr0 9 false (.str .nil)), (33283, .arr0 41 false (.str (.str .nil))), (33792, .box [(xo 1036896), (xo 1036880), (xo 1036864)]), (1036864, .arr 41 false (.str (.str .nil))), (1036880, .arr 9 true (.str .nil)), (1036896, .arr 9 true (.str .nil))]⟩)]), (26, ⟨[(2, .c (.c (.ptr 33280 0))), (4, .c (.c (.ptr 33792 0))), (6, .c (.c (.ptr 34304 0))), (18, .i), (19, .i), (20, .i), (25, .i), (26, .i), (27, .c x64)], [(33280, .box [(xo 33281), (xo 33282), (xo 33283)]), (33281, .arr0 9 false (.str .nil)), (33282, .arr0 9 false (.str .nil)), (33283, .arr0 41 false (.str (.str .nil))), (33792, .box [(xo 1004096), (xo 1004128), (xo 1004112)]), (34304, .box [(xl (.str .nil)), (xl (.str .nil)), (xl (.str (.str .nil)))]), (1004096, .arr 9 true (.str .nil)), (1004112, .arr 41 false (.str (.str .nil))), (1004128, .arr 9 true (.str .nil))]⟩, [(2, ⟨[(2, .c (.c (.ptr 33280 0))), (4, .c (.c (.ptr 33792 0))), (6, .c (.c (.ptr 34304 0))), (18, .i), (19, .i), (20, .i)], [(33280, .box [(xo 33281), (xo 33282), (xo 33283)]), (33281, .arr0 9 false (.str .nil)), (33282, .arr0 9 false (.str .nil)), (33283, .arr0 41 false (.str (.str .nil))), (33792, .box [(xo 1008192), (xo 1008224), (xo 1008208)]), (34304, .box [(xl (.str .nil)), (xl (.str .nil)), (xl (.str (.str .nil)))]), (1008192, .arr 9 true (.str .nil)), (1008208, .arr 41 false (.str (.str .nil))), (1008224, .arr 9 true (.str .nil))]⟩)]), (50, ⟨[(2, .c (.c (.ptr 33280 0))), (4, .c (.c (.ptr 33792 0))), (6, .c (.c (.ptr 34304 0))), (18, .i), (19, .i), (20, .i), (44, .i), (45, .i), (46, .c x64)], [(33280, .box [(xo 33281), (xo 33282), (xo 33283)]), (33281, .arr0 9 false (.str .nil)), (33282, .arr0 9 false (.str .nil)), (33283, .arr0 41 false (.str (.str .nil))), (33792, .box [(xo 1008192), (xo 1012288), (xo 1012304)]), (34304, .box [(xl (.str .nil)), (xl (.str .nil)), (xl (.str (.str .nil)))]), (1008192, .arr 9 true (.str .nil)), (1012288, .arr 9 true (.str .nil)), (1012304, .arr 41 false (.str (.str .nil)))]⟩, [(4, ⟨[(2, .c (.c (.ptr 33280 0))), (4, .c (.c (.ptr 33792 0))), (6, .c (.c (.ptr 34304 0))), (18, .i), (19, .i), (20, .i)], [(33280, .box [(xo 33281), (xo 33282), (xo 33283)]), (33281, .arr0 9 false (.str .nil)), (33282, .arr0 9 false (.str .nil)), (33283, .arr0 41 false (.str (.str .nil))), (33792, .box [(xo 1008192), (xo 1016384), (xo 1016400)]), (34304, .box [(xl (.str .nil)), (xl (.str .nil)), (xl (.str (.str .nil)))]), (1008192, .arr 9 true (.str .nil)), (1016384, .arr 9 true (.str .nil)), (1016400, .arr 41 false (.str (.str .nil)))]⟩)]), (74, ⟨[(2, .c (.c (.ptr 33280 0))), (4, .c (.c (.ptr 33792 0))), (18, .i), (19, .i), (20, .i), (63, .i), (64, .i), (65, .c x64)], [(33280, .box [(xo 33281), (xo 33282), (xo 33283)]), (33281, .arr0 9 false (.str .nil)), (33282, .arr0 9 false (.str .nil)), (33283, .arr0 41 false (.str (.str .nil))), (33792, .box [(xo 1008192), (xo 1016384), (xo 1020480)]), (1008192, .arr 9 true (.str .nil)), (1016384, .arr 9 true (.str .nil)), (1020480, .arr 41 false (.str (.str .nil)))]⟩, [(6, ⟨[(2, .c (.c (.ptr 33280 0))), (4, .c (.c (.ptr 33792 0))), (18, .i), (19, .i), (20, .i)], [(33280, .box [(xo 33281), (xo 33282), (xo 33283)]), (33281, .arr0 9 false (.str .nil)), (33282, .arr0 9 false (.str .nil)), (33283, .arr0 41 false (.str (.str .nil))), (33792, .box [(xo 1008192), (xo 1016384), (xo 1032768)]), (1008192, .arr 9 true (.str .nil)), (1016384, .arr 9 true (.str .nil)), (1032768, .arr 41 false (.str (.str .nil)))]⟩)]), (90, ⟨[(2, .c (.c (.ptr 33280 0))), (4, .c (.c (.ptr 33792 0))), (12, .c (.c (.ptr 35840 0))), (13, .c xb), (18, .i), (19, .i), (20, .i), (63, .i), (64, .i), (65, .i), (70, .c (xo 1024576)), (71, .i), (72, .c x64)], [(33280, .box [(xo 33281), (xo 33282), (xo 33283)]), (33281, .arr0 9 false (.str .nil)), (33282, .arr0 9 false (.str .nil)), (33283, .arr0 41 false (.str (.str .nil))), (33792, .box [(xo 1008192), (xo 1016384), (xo 1024576)]), (35840, .box [xs, xs]), (1008192, .arr 9 true (.str .nil)), (1016384, .arr 9 true (.str .nil)), (1024576, .arr 41 false (.str (.str .nil)))]⟩, [(8, ⟨[(2, .c (.c (.ptr 33280 0))), (4, .c (.c (.ptr 33792 0))), (12, .c (.c (.ptr 35840 0))), (13, .c xb), (18, .i), (19, .i), (20, .i), (63, .i), (64, .i), (65, .i)], [(33280, .box [(xo 33281), (xo 33282), (xo 33283)]), (33281, .arr0 9 false (.str .nil)), (33282, .arr0 9 false (.str .nil)), (33283, .arr0 41 false (.str (.str .nil))), (33792, .box [(xo 1008192), (xo 1016384), (xo 1028672)]), (35840, .box [xs, xs]), (1008192, .arr 9 true (.str .nil)), (1016384, .arr 9 true (.str .nil)), (1028672, .arr 41 false (.str (.str .nil)))]⟩)])]⟩
noncomputable def ref14_Merge_S (N : Nat) : Sig := .of [.cell false (.sl 25 Tq6)] [Sq1, .cell false (.int .i64)] (fun a => ref14_Merge N a)
theorem ref14_Merge_spec (N : Nat) : Spec Tryz.prog 9 (ref14_Merge_S N) := spec_of_exe (C := ctx Tryz.prog [(19, ref14_contains_S N), (20, ref14_CheckBundle_S N)] ref14_Merge_ns) (L := ref14_Merge_L) (fn := Tryz.f9) (N := N) (ctx_ok ⟨ref14_contains_spec N, ref14_CheckBundle_spec N, trivial⟩) (by kernel_rfl) (by kernel_rfl) (fun a => by kernel_rfl)

end Go.Proofs.YtnllccjmbijjlaaGreat.Vm
