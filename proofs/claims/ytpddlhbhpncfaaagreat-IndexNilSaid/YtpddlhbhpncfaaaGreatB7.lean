/- Typed forms of functions, printed by a program of our own. -/
import Derived.Test.YtpddlhbhpncfaaaGreatProg
import Derived.KernelRfl
import Derived.Test.YtpddlhbhpncfaaaGreatIa5
namespace Go.Proofs.YtpddlhbhpncfaaaGreat
open Go Go.Idl
set_option linter.unusedVariables false
noncomputable section
/-- (*incipit/wavelet.Matrix).bit -/
def g107 (R : Idl.Callee) (L : Nat) : JT [.v, .i .i64, .i .i64] := fun (m1 : Value) (code1 : Int) (level1 : Int) (s1 : Heap) =>
  nchk m1 fun p1 =>
  fldP p1 1 fun p2 =>
  ldV p2 s1 fun t1 =>
  lenV t1 fun n1 =>
  arI .sub .i64 n1 1 fun t2 =>
  arI .sub .i64 t2 level1 fun t3 =>
  arI .shr .i64 code1 t3 fun t4 =>
  arI .and .i64 t4 1 fun t5 =>
  some (.bool (cmpI .eql t5 1), s1)
def g107A : Ann := (.s .d (.s .d .d))
theorem g107E (R : Idl.Callee) (L : Nat) : funT Tryz.prog R L Tryz.f107 g107A [.v, .i .i64, .i .i64] = g107 R L := by kernel_rfl
/-- incipit/wavelet.down -/
def g108 (R : Idl.Callee) (L : Nat) : JT [.v, .b, .i .i64] := fun (r1 : Value) (one1 : Bool) (i1 : Int) (s1 : Heap) =>
  (callJ [.i .i64, .i .i64] R (.fn 110 #[r1, .bool one1, .int .i64 i1]) s1 fun (r2 : Int) (r3 : Int) (s2 : Heap) =>
  joinK (fun (n1 : Int) (s3 : Heap) =>
  some (.int .i64 n1, s3)) fun J1 =>
  cndT one1 ((callJ [.i .i64] R (.fn 144 #[r1, .bool false]) s2 fun (r4 : Int) (s4 : Heap) =>
  arI .add .i64 r2 r4 fun t1 =>
  J1 t1 s4)) (J1 r2 s2))
def g108A : Ann := (.s .d (.s .d (.j [(7, .i .i64)] (.s .d (.c .d .d)) (.s .d .d))))
theorem g108E (R : Idl.Callee) (L : Nat) : funT Tryz.prog R L Tryz.f108 g108A [.v, .b, .i .i64] = g108 R L := by kernel_rfl
/-- (*incipit/rank.Row).At -/
def g109 (R : Idl.Callee) (L : Nat) : JT [.v, .i .i64] := fun (r1 : Value) (i1 : Int) (s1 : Heap) =>
  nilT .p r1 (.pointer none) fun c1 =>
  cndT (flipB true c1) (some ((.tuple #[.bool false, .int .i64 11]), s1)) (joinK (fun (r2 : Value) (i2 : Int) (t1 : Bool) (s2 : Heap) =>
  cndT t1 (some ((.tuple #[.bool false, .int .i64 10]), s2)) (nchk r2 fun p1 =>
  fldP p1 1 fun p2 =>
  ldV p2 s2 fun t2 =>
  arI .quo .i64 i2 64 fun t3 =>
  idxS 1 t2 t3 fun p3 =>
  ldI .u64 p3 s2 fun t4 =>
  arI .rem .i64 i2 64 fun t5 =>
  arI .shr .u64 t4 t5 fun t6 =>
  arI .and .u64 t6 1 fun t7 =>
  some ((.tuple #[.bool (cmpI .eql t7 1), .int .i64 0]), s2))) fun J1 =>
  cndT (cmpI .lss i1 0) (J1 r1 i1 true s1) (nchk r1 fun p4 =>
  fldP p4 0 fun p5 =>
  ldI .i64 p5 s1 fun t8 =>
  J1 r1 i1 (cmpI .geq i1 t8) s1))
def g109A : Ann := (.s .d (.s (.b (.s .d (.c (.s .d .d) (.j [(0, .v), (1, .i .i64), (9, .b)] .d (.c (.s .d .d) .d))))) (.s .d .d)))
theorem g109E (R : Idl.Callee) (L : Nat) : funT Tryz.prog R L Tryz.f109 g109A [.v, .i .i64] = g109 R L := by kernel_rfl
/-- (*incipit/rank.Row).Rank -/
def g110 (R : Idl.Callee) (L : Nat) : JT [.v, .b, .i .i64] := fun (r1 : Value) (one1 : Bool) (i1 : Int) (s1 : Heap) =>
  nilT .p r1 (.pointer none) fun c1 =>
  cndT (flipB true c1) (some ((.tuple #[.int .i64 0, .int .i64 11]), s1)) (joinK (fun (r2 : Value) (one2 : Bool) (i2 : Int) (t1 : Bool) (s2 : Heap) =>
  cndT t1 (some ((.tuple #[.int .i64 0, .int .i64 10]), s2)) ((callJ [.i .i64] R (.fn 145 #[r2, .int .i64 i2]) s2 fun (r3 : Int) (s3 : Heap) =>
  joinK (fun (n1 : Int) (s4 : Heap) =>
  some ((.tuple #[.int .i64 n1, .int .i64 0]), s4)) fun J2 =>
  cndT (!one2) (arI .sub .i64 i2 r3 fun t2 =>
  J2 t2 s3) (J2 r3 s3)))) fun J1 =>
  cndT (cmpI .lss i1 0) (J1 r1 one1 i1 true s1) (nchk r1 fun p1 =>
  fldP p1 0 fun p2 =>
  ldI .i64 p2 s1 fun t3 =>
  J1 r1 one1 i1 (cmpI .gtr i1 t3) s1))
def g110A : Ann := (.s .d (.s (.b (.s .d (.c (.s .d .d) (.j [(0, .v), (1, .b), (2, .i .i64), (12, .b)] .d (.c (.s .d .d) .d))))) (.s .d (.j [(8, .i .i64)] (.s .d (.c .d .d)) (.s .d .d)))))
theorem g110E (R : Idl.Callee) (L : Nat) : funT Tryz.prog R L Tryz.f110 g110A [.v, .b, .i .i64] = g110 R L := by kernel_rfl
/-- slices.insertionSortOrdered[int] -/
def g111 (R : Idl.Callee) (L : Nat) : JT [.v, .i .i64, .i .i64] := fun (data1 : Value) (a1 : Int) (b1 : Int) (s1 : Heap) =>
  arI .add .i64 a1 1 fun t1 =>
  loopN (botJ [.v, .i .i64, .i .i64, .i .i64]) (fun self1 => fun (data2 : Value) (a2 : Int) (b2 : Int) (i1 : Int) (s2 : Heap) =>
  cndT (cmpI .lss i1 b2) (loopN (botJ [.v, .i .i64, .i .i64, .i .i64, .i .i64]) (fun self2 => fun (data3 : Value) (a3 : Int) (b3 : Int) (i2 : Int) (j1 : Int) (s3 : Heap) =>
  joinK (fun (data4 : Value) (a4 : Int) (b4 : Int) (i3 : Int) (j2 : Int) (t2 : Bool) (s4 : Heap) =>
  cndT t2 (heH 18 s4 fun base1 s5 =>
  arI .sub .i64 j2 1 fun t3 =>
  idxS 1 data4 t3 fun p1 =>
  ldI .i64 p1 s5 fun t4 =>
  idxS 1 data4 j2 fun p2 =>
  ldI .i64 p2 s5 fun t5 =>
  idxS 1 data4 j2 fun p3 =>
  stN 1 p3 [(.int .i64 t4)] s5 fun s6 =>
  arI .sub .i64 j2 1 fun t6 =>
  idxS 1 data4 t6 fun p4 =>
  stN 1 p4 [(.int .i64 t5)] s6 fun s7 =>
  arI .sub .i64 j2 1 fun t7 =>
  self2 data4 a4 b4 i3 t7 s7) (arI .add .i64 i3 1 fun t8 =>
  self1 data4 a4 b4 t8 s4)) fun J1 =>
  heH 15 s3 fun base2 s8 =>
  cndT (cmpI .gtr j1 a3) (idxS 1 data3 j1 fun p5 =>
  ldI .i64 p5 s8 fun t9 =>
  arI .sub .i64 j1 1 fun t10 =>
  idxS 1 data3 t10 fun p6 =>
  ldI .i64 p6 s8 fun t11 =>
  (callJ [.b] R (.fn 103 #[.int .i64 t9, .int .i64 t11]) s8 fun (r1 : Bool) (s9 : Heap) =>
  J1 data3 a3 b3 i2 j1 r1 s9)) (J1 data3 a3 b3 i2 j1 false s8)) L data2 a2 b2 i1 i1 s2) (some ((.tuple #[]), s2))) L data1 a1 b1 t1 s1
def g111A : Ann := (.s .d (.b (.l [(0, .v), (1, .i .i64), (2, .i .i64), (6, .i .i64)] (.s (.s .d (.c .d .d)) (.s (.b (.s .d (.b (.l [(0, .v), (1, .i .i64), (2, .i .i64), (6, .i .i64), (7, .i .i64)] (.s (.j [(0, .v), (1, .i .i64), (2, .i .i64), (6, .i .i64), (7, .i .i64), (30, .b)] .d (.c .d .d)) (.s (.b .d) .d)))))) .d)))))
theorem g111E (R : Idl.Callee) (L : Nat) : funT Tryz.prog R L Tryz.f111 g111A [.v, .i .i64, .i .i64] = g111 R L := by kernel_rfl
/-- slices.heapSortOrdered[int] -/
def g112 (R : Idl.Callee) (L : Nat) : JT [.v, .i .i64, .i .i64] := fun (data1 : Value) (a1 : Int) (b1 : Int) (s1 : Heap) =>
  arI .sub .i64 b1 a1 fun t1 =>
  arI .sub .i64 t1 1 fun t2 =>
  arI .quo .i64 t2 2 fun t3 =>
  loopN (botJ [.v, .i .i64, .i .i64, .i .i64, .i .i64]) (fun self1 => fun (data2 : Value) (first1 : Int) (lo1 : Int) (hi1 : Int) (i1 : Int) (s2 : Heap) =>
  cndT (cmpI .geq i1 0) ((callJ [] R (.fn 146 #[data2, .int .i64 i1, .int .i64 hi1, .int .i64 first1]) s2 fun (s3 : Heap) =>
  arI .sub .i64 i1 1 fun t4 =>
  self1 data2 first1 lo1 hi1 t4 s3)) (arI .sub .i64 hi1 1 fun t5 =>
  loopN (botJ [.v, .i .i64, .i .i64, .i .i64]) (fun self2 => fun (data3 : Value) (first2 : Int) (lo2 : Int) (i2 : Int) (s4 : Heap) =>
  cndT (cmpI .geq i2 0) (heH 20 s4 fun base1 s5 =>
  arI .add .i64 first2 i2 fun t6 =>
  idxS 1 data3 t6 fun p1 =>
  ldI .i64 p1 s5 fun t7 =>
  idxS 1 data3 first2 fun p2 =>
  ldI .i64 p2 s5 fun t8 =>
  idxS 1 data3 first2 fun p3 =>
  stN 1 p3 [(.int .i64 t7)] s5 fun s6 =>
  arI .add .i64 first2 i2 fun t9 =>
  idxS 1 data3 t9 fun p4 =>
  stN 1 p4 [(.int .i64 t8)] s6 fun s7 =>
  (callJ [] R (.fn 146 #[data3, .int .i64 lo2, .int .i64 i2, .int .i64 first2]) s7 fun (s8 : Heap) =>
  arI .sub .i64 i2 1 fun t10 =>
  self2 data3 first2 lo2 t10 s8)) (some ((.tuple #[]), s4))) L data2 first1 lo1 t5 s2)) L data1 a1 0 t1 t3 s1
def g112A : Ann := (.s .d (.s .d (.s .d (.s (.s .d (.b (.l [(0, .v), (6, .i .i64), (7, .i .i64), (8, .i .i64), (9, .i .i64)] (.s (.s .d (.c .d .d)) (.s (.b .d) .d))))) (.s .d (.b (.l [(0, .v), (6, .i .i64), (7, .i .i64), (10, .i .i64)] (.s (.s .d (.c .d .d)) (.s (.b (.s .d .d)) .d)))))))))
theorem g112E (R : Idl.Callee) (L : Nat) : funT Tryz.prog R L Tryz.f112 g112A [.v, .i .i64, .i .i64] = g112 R L := by kernel_rfl
/-- slices.breakPatternsOrdered[int] -/
def g113 (R : Idl.Callee) (L : Nat) : JT [.v, .i .i64, .i .i64] := fun (data1 : Value) (a1 : Int) (b1 : Int) (s1 : Heap) =>
  arI .sub .i64 b1 a1 fun t1 =>
  cndT (cmpI .geq t1 8) (bdI (wr .u64 t1) fun t2 =>
  newO (mkRow [.int .u64 0]) s1 fun id1 s2 =>
  stN 1 (ptrTo id1) [(.int .u64 t2)] s2 fun s3 =>
  (callJ [.i .u64] R (.fn 121 #[.int .i64 t1]) s3 fun (r1 : Int) (s4 : Heap) =>
  arI .quo .i64 t1 4 fun t3 =>
  arI .mul .i64 t3 2 fun t4 =>
  arI .add .i64 a1 t4 fun t5 =>
  arI .sub .i64 t5 1 fun t6 =>
  loopN (botJ [.v, .i .i64, .i .i64, .v, .i .u64, .i .i64]) (fun self1 => fun (data2 : Value) (a2 : Int) (length1 : Int) (random1 : Value) (modulus1 : Int) (idx1 : Int) (s5 : Heap) =>
  arI .quo .i64 length1 4 fun t7 =>
  arI .mul .i64 t7 2 fun t8 =>
  arI .add .i64 a2 t8 fun t9 =>
  arI .add .i64 t9 1 fun t10 =>
  cndT (cmpI .leq idx1 t10) ((callJ [.i .u64] R (.fn 122 #[random1]) s5 fun (r2 : Int) (s6 : Heap) =>
  arI .sub .u64 modulus1 1 fun t11 =>
  arI .and .u64 r2 t11 fun t12 =>
  bdI (wr .i64 t12) fun t13 =>
  joinK (fun (data3 : Value) (a3 : Int) (length2 : Int) (random2 : Value) (modulus2 : Int) (idx2 : Int) (other1 : Int) (s7 : Heap) =>
  heH 20 s7 fun base1 s8 =>
  arI .add .i64 a3 other1 fun t14 =>
  idxS 1 data3 t14 fun p1 =>
  ldI .i64 p1 s8 fun t15 =>
  idxS 1 data3 idx2 fun p2 =>
  ldI .i64 p2 s8 fun t16 =>
  idxS 1 data3 idx2 fun p3 =>
  stN 1 p3 [(.int .i64 t15)] s8 fun s9 =>
  arI .add .i64 a3 other1 fun t17 =>
  idxS 1 data3 t17 fun p4 =>
  stN 1 p4 [(.int .i64 t16)] s9 fun s10 =>
  arI .add .i64 idx2 1 fun t18 =>
  self1 data3 a3 length2 random2 modulus2 t18 s10) fun J1 =>
  cndT (cmpI .geq t13 length1) (arI .sub .i64 t13 length1 fun t19 =>
  J1 data2 a2 length1 random1 modulus1 idx1 t19 s6) (J1 data2 a2 length1 random1 modulus1 idx1 t13 s6))) (some ((.tuple #[]), s5))) L data1 a1 t1 (ptrTo id1) r1 t6 s4)) (some ((.tuple #[]), s1))
def g113A : Ann := (.s .d (.s .d (.c (.s .d (.s .d (.s .d (.b (.l [(0, .v), (1, .i .i64), (6, .i .i64), (7, .v), (8, .i .u64), (9, .i .i64)] (.s (.s .d (.c .d .d)) (.s (.b (.s .d (.j [(0, .v), (1, .i .i64), (6, .i .i64), (7, .v), (8, .i .u64), (9, .i .i64), (10, .i .i64)] (.s .d (.c .d .d)) .d))) .d))))))) .d)))
theorem g113E (R : Idl.Callee) (L : Nat) : funT Tryz.prog R L Tryz.f113 g113A [.v, .i .i64, .i .i64] = g113 R L := by kernel_rfl
/-- slices.choosePivotOrdered[int] -/
def g114 (R : Idl.Callee) (L : Nat) : JT [.v, .i .i64, .i .i64] := fun (data1 : Value) (a1 : Int) (b1 : Int) (s1 : Heap) =>
  arI .sub .i64 b1 a1 fun t1 =>
  newO (mkRow [.int .i64 0]) s1 fun id1 s2 =>
  arI .quo .i64 t1 4 fun t2 =>
  arI .mul .i64 t2 1 fun t3 =>
  arI .add .i64 a1 t3 fun t4 =>
  arI .quo .i64 t1 4 fun t5 =>
  arI .mul .i64 t5 2 fun t6 =>
  arI .add .i64 a1 t6 fun t7 =>
  arI .quo .i64 t1 4 fun t8 =>
  arI .mul .i64 t8 3 fun t9 =>
  arI .add .i64 a1 t9 fun t10 =>
  joinK (fun (swaps1 : Value) (j1 : Int) (s3 : Heap) =>
  ldI .i64 swaps1 s3 fun t11 =>
  cndT (cmpI .eql t11 0) (some ((.tuple #[.int .i64 j1, .int .i64 1]), s3)) (cndT (cmpI .eql t11 12) (some ((.tuple #[.int .i64 j1, .int .i64 2]), s3)) (some ((.tuple #[.int .i64 j1, .int .i64 0]), s3)))) fun J1 =>
  cndT (cmpI .geq t1 8) (joinK (fun (data2 : Value) (swaps2 : Value) (i1 : Int) (j2 : Int) (k1 : Int) (s4 : Heap) =>
  (callJ [.i .i64] R (.fn 148 #[data2, .int .i64 i1, .int .i64 j2, .int .i64 k1, swaps2]) s4 fun (r1 : Int) (s5 : Heap) =>
  J1 swaps2 r1 s5)) fun J2 =>
  cndT (cmpI .geq t1 50) ((callJ [.i .i64] R (.fn 147 #[data1, .int .i64 t4, (ptrTo id1)]) s2 fun (r2 : Int) (s6 : Heap) =>
  (callJ [.i .i64] R (.fn 147 #[data1, .int .i64 t7, (ptrTo id1)]) s6 fun (r3 : Int) (s7 : Heap) =>
  (callJ [.i .i64] R (.fn 147 #[data1, .int .i64 t10, (ptrTo id1)]) s7 fun (r4 : Int) (s8 : Heap) =>
  J2 data1 (ptrTo id1) r2 r3 r4 s8)))) (J2 data1 (ptrTo id1) t4 t7 t10 s2)) (J1 (ptrTo id1) t7 s2)
def g114A : Ann := (.s .d (.s .d (.s .d (.s .d (.s .d (.s .d (.j [(9, .v), (11, .i .i64)] (.s .d (.c (.j [(0, .v), (9, .v), (10, .i .i64), (11, .i .i64), (12, .i .i64)] (.s .d (.c (.s .d (.s .d .d)) .d)) .d) .d)) (.s .d (.b (.s .d (.c (.s .d .d) (.s .d (.c (.s .d .d) (.s .d .d))))))))))))))
theorem g114E (R : Idl.Callee) (L : Nat) : funT Tryz.prog R L Tryz.f114 g114A [.v, .i .i64, .i .i64] = g114 R L := by kernel_rfl
/-- slices.reverseRangeOrdered[int] -/
def g115 (R : Idl.Callee) (L : Nat) : JT [.v, .i .i64, .i .i64] := fun (data1 : Value) (a1 : Int) (b1 : Int) (s1 : Heap) =>
  arI .sub .i64 b1 1 fun t1 =>
  loopN (botJ [.v, .i .i64, .i .i64]) (fun self1 => fun (data2 : Value) (i1 : Int) (j1 : Int) (s2 : Heap) =>
  cndT (cmpI .lss i1 j1) (heH 16 s2 fun base1 s3 =>
  idxS 1 data2 j1 fun p1 =>
  ldI .i64 p1 s3 fun t2 =>
  idxS 1 data2 i1 fun p2 =>
  ldI .i64 p2 s3 fun t3 =>
  idxS 1 data2 i1 fun p3 =>
  stN 1 p3 [(.int .i64 t2)] s3 fun s4 =>
  idxS 1 data2 j1 fun p4 =>
  stN 1 p4 [(.int .i64 t3)] s4 fun s5 =>
  arI .add .i64 i1 1 fun t4 =>
  arI .sub .i64 j1 1 fun t5 =>
  self1 data2 t4 t5 s5) (some ((.tuple #[]), s2))) L data1 a1 t1 s1
def g115A : Ann := (.s .d (.s .d (.b (.l [(0, .v), (6, .i .i64), (7, .i .i64)] (.s (.s .d (.c .d .d)) (.b (.s .d (.s .d .d))))))))
theorem g115E (R : Idl.Callee) (L : Nat) : funT Tryz.prog R L Tryz.f115 g115A [.v, .i .i64, .i .i64] = g115 R L := by kernel_rfl
/-- slices.partialInsertionSortOrdered[int] -/
def g116 (R : Idl.Callee) (L : Nat) : JT [.v, .i .i64, .i .i64] := fun (data1 : Value) (a1 : Int) (b1 : Int) (s1 : Heap) =>
  arI .add .i64 a1 1 fun t1 =>
  loopN (botJ [.v, .i .i64, .i .i64, .i .i64, .i .i64]) (fun self1 => fun (data2 : Value) (a2 : Int) (b2 : Int) (i1 : Int) (j1 : Int) (s2 : Heap) =>
  cndT (cmpI .lss j1 5) (joinK (fun (data3 : Value) (a3 : Int) (b3 : Int) (i2 : Int) (j2 : Int) (s3 : Heap) =>
  arI .add .i64 j2 1 fun t2 =>
  self1 data3 a3 b3 i2 t2 s3) fun J1 =>
  loopN (botJ [.v, .i .i64, .i .i64, .i .i64, .i .i64]) (fun self2 => fun (data4 : Value) (a4 : Int) (b4 : Int) (i3 : Int) (j3 : Int) (s4 : Heap) =>
  joinK (fun (data5 : Value) (a5 : Int) (b5 : Int) (i4 : Int) (j4 : Int) (t3 : Bool) (s5 : Heap) =>
  cndT t3 (arI .add .i64 i4 1 fun t4 =>
  self2 data5 a5 b5 t4 j4 s5) (cndT (cmpI .eql i4 b5) (some (.bool true, s5)) (arI .sub .i64 b5 a5 fun t5 =>
  cndT (cmpI .lss t5 50) (some (.bool false, s5)) (heH 18 s5 fun base1 s6 =>
  arI .sub .i64 i4 1 fun t6 =>
  idxS 1 data5 t6 fun p1 =>
  ldI .i64 p1 s6 fun t7 =>
  idxS 1 data5 i4 fun p2 =>
  ldI .i64 p2 s6 fun t8 =>
  idxS 1 data5 i4 fun p3 =>
  stN 1 p3 [(.int .i64 t7)] s6 fun s7 =>
  arI .sub .i64 i4 1 fun t9 =>
  idxS 1 data5 t9 fun p4 =>
  stN 1 p4 [(.int .i64 t8)] s7 fun s8 =>
  joinK (fun (data6 : Value) (a6 : Int) (b6 : Int) (i5 : Int) (j5 : Int) (s9 : Heap) =>
  arI .sub .i64 b6 i5 fun t10 =>
  cndT (cmpI .geq t10 2) (arI .add .i64 i5 1 fun t11 =>
  loopN (botJ [.v, .i .i64, .i .i64, .i .i64, .i .i64, .i .i64]) (fun self3 => fun (data7 : Value) (a7 : Int) (b7 : Int) (i6 : Int) (j6 : Int) (j7 : Int) (s10 : Heap) =>
  cndT (cmpI .lss j7 b7) (heH 11 s10 fun base2 s11 =>
  idxS 1 data7 j7 fun p5 =>
  ldI .i64 p5 s11 fun t12 =>
  arI .sub .i64 j7 1 fun t13 =>
  idxS 1 data7 t13 fun p6 =>
  ldI .i64 p6 s11 fun t14 =>
  (callJ [.b] R (.fn 103 #[.int .i64 t12, .int .i64 t14]) s11 fun (r1 : Bool) (s12 : Heap) =>
  cndT (!r1) (J1 data7 a7 b7 i6 j6 s12) (heH 18 s12 fun base3 s13 =>
  arI .sub .i64 j7 1 fun t15 =>
  idxS 1 data7 t15 fun p7 =>
  ldI .i64 p7 s13 fun t16 =>
  idxS 1 data7 j7 fun p8 =>
  ldI .i64 p8 s13 fun t17 =>
  idxS 1 data7 j7 fun p9 =>
  stN 1 p9 [(.int .i64 t16)] s13 fun s14 =>
  arI .sub .i64 j7 1 fun t18 =>
  idxS 1 data7 t18 fun p10 =>
  stN 1 p10 [(.int .i64 t17)] s14 fun s15 =>
  arI .add .i64 j7 1 fun t19 =>
  self3 data7 a7 b7 i6 j6 t19 s15))) (J1 data7 a7 b7 i6 j6 s10)) L data6 a6 b6 i5 j5 t11 s9) (J1 data6 a6 b6 i5 j5 s9)) fun J3 =>
  arI .sub .i64 i4 a5 fun t20 =>
  cndT (cmpI .geq t20 2) (arI .sub .i64 i4 1 fun t21 =>
  loopN (botJ [.v, .i .i64, .i .i64, .i .i64, .i .i64, .i .i64]) (fun self4 => fun (data8 : Value) (a8 : Int) (b8 : Int) (i7 : Int) (j8 : Int) (j9 : Int) (s16 : Heap) =>
  cndT (cmpI .geq j9 1) (heH 11 s16 fun base4 s17 =>
  idxS 1 data8 j9 fun p11 =>
  ldI .i64 p11 s17 fun t22 =>
  arI .sub .i64 j9 1 fun t23 =>
  idxS 1 data8 t23 fun p12 =>
  ldI .i64 p12 s17 fun t24 =>
  (callJ [.b] R (.fn 103 #[.int .i64 t22, .int .i64 t24]) s17 fun (r2 : Bool) (s18 : Heap) =>
  cndT (!r2) (J3 data8 a8 b8 i7 j8 s18) (heH 18 s18 fun base5 s19 =>
  arI .sub .i64 j9 1 fun t25 =>
  idxS 1 data8 t25 fun p13 =>
  ldI .i64 p13 s19 fun t26 =>
  idxS 1 data8 j9 fun p14 =>
  ldI .i64 p14 s19 fun t27 =>
  idxS 1 data8 j9 fun p15 =>
  stN 1 p15 [(.int .i64 t26)] s19 fun s20 =>
  arI .sub .i64 j9 1 fun t28 =>
  idxS 1 data8 t28 fun p16 =>
  stN 1 p16 [(.int .i64 t27)] s20 fun s21 =>
  arI .sub .i64 j9 1 fun t29 =>
  self4 data8 a8 b8 i7 j8 t29 s21))) (J3 data8 a8 b8 i7 j8 s16)) L data5 a5 b5 i4 j4 t21 s8) (J3 data5 a5 b5 i4 j4 s8))))) fun J2 =>
  heH 16 s4 fun base6 s22 =>
  cndT (cmpI .lss i3 b4) (idxS 1 data4 i3 fun p17 =>
  ldI .i64 p17 s22 fun t30 =>
  arI .sub .i64 i3 1 fun t31 =>
  idxS 1 data4 t31 fun p18 =>
  ldI .i64 p18 s22 fun t32 =>
  (callJ [.b] R (.fn 103 #[.int .i64 t30, .int .i64 t32]) s22 fun (r3 : Bool) (s23 : Heap) =>
  J2 data4 a4 b4 i3 j3 (!r3) s23)) (J2 data4 a4 b4 i3 j3 false s22)) L data2 a2 b2 i1 j1 s2) (some (.bool false, s2))) L data1 a1 b1 t1 0 s1
def g116A : Ann := (.s .d (.s .d (.s (.s .d (.b (.l [(0, .v), (1, .i .i64), (2, .i .i64), (7, .i .i64), (8, .i .i64)] (.s (.s .d (.c .d .d)) (.j [(0, .v), (1, .i .i64), (2, .i .i64), (7, .i .i64), (8, .i .i64)] (.b (.s (.b (.l [(0, .v), (1, .i .i64), (2, .i .i64), (7, .i .i64), (8, .i .i64)] (.s (.j [(0, .v), (1, .i .i64), (2, .i .i64), (7, .i .i64), (8, .i .i64), (32, .b)] .d (.c .d .d)) (.b .d)))) (.s (.s .d (.c (.s .d .d) .d)) (.s (.s .d (.c (.s .d .d) .d)) (.s .d (.j [(0, .v), (1, .i .i64), (2, .i .i64), (7, .i .i64), (8, .i .i64)] (.s .d (.c (.s .d (.b (.l [(0, .v), (1, .i .i64), (2, .i .i64), (7, .i .i64), (8, .i .i64), (9, .i .i64)] (.s (.s .d (.c .d .d)) (.s (.b (.s (.s .d (.c .d .d)) .d)) .d))))) .d)) (.s .d (.c (.s .d (.b (.l [(0, .v), (1, .i .i64), (2, .i .i64), (7, .i .i64), (8, .i .i64), (10, .i .i64)] (.s (.s .d (.c .d .d)) (.s (.b (.s (.s .d (.c .d .d)) .d)) .d))))) .d)))))))) .d))))) (.s .d .d))))
theorem g116E (R : Idl.Callee) (L : Nat) : funT Tryz.prog R L Tryz.f116 g116A [.v, .i .i64, .i .i64] = g116 R L := by kernel_rfl
/-- slices.partitionEqualOrdered[int] -/
def g117 (R : Idl.Callee) (L : Nat) : JT [.v, .i .i64, .i .i64, .i .i64] := fun (data1 : Value) (a1 : Int) (b1 : Int) (pivot1 : Int) (s1 : Heap) =>
  heH 16 s1 fun base1 s2 =>
  idxS 1 data1 pivot1 fun p1 =>
  ldI .i64 p1 s2 fun t1 =>
  idxS 1 data1 a1 fun p2 =>
  ldI .i64 p2 s2 fun t2 =>
  idxS 1 data1 a1 fun p3 =>
  stN 1 p3 [(.int .i64 t1)] s2 fun s3 =>
  idxS 1 data1 pivot1 fun p4 =>
  stN 1 p4 [(.int .i64 t2)] s3 fun s4 =>
  arI .add .i64 a1 1 fun t3 =>
  arI .sub .i64 b1 1 fun t4 =>
  loopN (botJ [.v, .i .i64, .i .i64, .i .i64]) (fun self1 => fun (data2 : Value) (a2 : Int) (i1 : Int) (j1 : Int) (s5 : Heap) =>
  loopN (botJ [.v, .i .i64, .i .i64, .i .i64]) (fun self2 => fun (data3 : Value) (a3 : Int) (i2 : Int) (j2 : Int) (s6 : Heap) =>
  joinK (fun (data4 : Value) (a4 : Int) (i3 : Int) (j3 : Int) (t5 : Bool) (s7 : Heap) =>
  cndT t5 (arI .add .i64 i3 1 fun t6 =>
  self2 data4 a4 t6 j3 s7) (loopN (botJ [.v, .i .i64, .i .i64, .i .i64]) (fun self3 => fun (data5 : Value) (a5 : Int) (i4 : Int) (j4 : Int) (s8 : Heap) =>
  joinK (fun (data6 : Value) (a6 : Int) (i5 : Int) (j5 : Int) (t7 : Bool) (s9 : Heap) =>
  cndT t7 (arI .sub .i64 j5 1 fun t8 =>
  self3 data6 a6 i5 t8 s9) (cndT (cmpI .gtr i5 j5) (some (.int .i64 i5, s9)) (heH 16 s9 fun base2 s10 =>
  idxS 1 data6 j5 fun p5 =>
  ldI .i64 p5 s10 fun t9 =>
  idxS 1 data6 i5 fun p6 =>
  ldI .i64 p6 s10 fun t10 =>
  idxS 1 data6 i5 fun p7 =>
  stN 1 p7 [(.int .i64 t9)] s10 fun s11 =>
  idxS 1 data6 j5 fun p8 =>
  stN 1 p8 [(.int .i64 t10)] s11 fun s12 =>
  arI .add .i64 i5 1 fun t11 =>
  arI .sub .i64 j5 1 fun t12 =>
  self1 data6 a6 t11 t12 s12))) fun J2 =>
  heH 14 s8 fun base3 s13 =>
  cndT (cmpI .leq i4 j4) (idxS 1 data5 a5 fun p9 =>
  ldI .i64 p9 s13 fun t13 =>
  idxS 1 data5 j4 fun p10 =>
  ldI .i64 p10 s13 fun t14 =>
  (callJ [.b] R (.fn 103 #[.int .i64 t13, .int .i64 t14]) s13 fun (r1 : Bool) (s14 : Heap) =>
  J2 data5 a5 i4 j4 r1 s14)) (J2 data5 a5 i4 j4 false s13)) L data4 a4 i3 j3 s7)) fun J1 =>
  heH 15 s6 fun base4 s15 =>
  cndT (cmpI .leq i2 j2) (idxS 1 data3 a3 fun p11 =>
  ldI .i64 p11 s15 fun t15 =>
  idxS 1 data3 i2 fun p12 =>
  ldI .i64 p12 s15 fun t16 =>
  (callJ [.b] R (.fn 103 #[.int .i64 t15, .int .i64 t16]) s15 fun (r2 : Bool) (s16 : Heap) =>
  J1 data3 a3 i2 j2 (!r2) s16)) (J1 data3 a3 i2 j2 false s15)) L data2 a2 i1 j1 s5) L data1 a1 t3 t4 s4
def g117A : Ann := (.s .d (.s .d (.s .d (.s (.b (.l [(0, .v), (1, .i .i64), (9, .i .i64), (10, .i .i64)] (.b (.s (.b (.l [(0, .v), (1, .i .i64), (9, .i .i64), (10, .i .i64)] (.s (.j [(0, .v), (1, .i .i64), (9, .i .i64), (10, .i .i64), (43, .b)] .d (.c .d .d)) (.b .d)))) (.s (.b (.l [(0, .v), (1, .i .i64), (9, .i .i64), (10, .i .i64)] (.s (.j [(0, .v), (1, .i .i64), (9, .i .i64), (10, .i .i64), (59, .b)] .d (.c .d .d)) (.b .d)))) (.s (.s .d (.c .d .d)) (.s .d (.s .d .d)))))))) (.s .d .d)))))
theorem g117E (R : Idl.Callee) (L : Nat) : funT Tryz.prog R L Tryz.f117 g117A [.v, .i .i64, .i .i64, .i .i64] = g117 R L := by kernel_rfl
/-- slices.partitionOrdered[int] -/
def g118 (R : Idl.Callee) (L : Nat) : JT [.v, .i .i64, .i .i64, .i .i64] := fun (data1 : Value) (a1 : Int) (b1 : Int) (pivot1 : Int) (s1 : Heap) =>
  heH 16 s1 fun base1 s2 =>
  idxS 1 data1 pivot1 fun p1 =>
  ldI .i64 p1 s2 fun t1 =>
  idxS 1 data1 a1 fun p2 =>
  ldI .i64 p2 s2 fun t2 =>
  idxS 1 data1 a1 fun p3 =>
  stN 1 p3 [(.int .i64 t1)] s2 fun s3 =>
  idxS 1 data1 pivot1 fun p4 =>
  stN 1 p4 [(.int .i64 t2)] s3 fun s4 =>
  arI .add .i64 a1 1 fun t3 =>
  arI .sub .i64 b1 1 fun t4 =>
  loopN (botJ [.v, .i .i64, .i .i64, .i .i64]) (fun self1 => fun (data2 : Value) (a2 : Int) (i1 : Int) (j1 : Int) (s5 : Heap) =>
  joinK (fun (data3 : Value) (a3 : Int) (i2 : Int) (j2 : Int) (t5 : Bool) (s6 : Heap) =>
  cndT t5 (arI .add .i64 i2 1 fun t6 =>
  self1 data3 a3 t6 j2 s6) (loopN (botJ [.v, .i .i64, .i .i64, .i .i64]) (fun self2 => fun (data4 : Value) (a4 : Int) (i3 : Int) (j3 : Int) (s7 : Heap) =>
  joinK (fun (data5 : Value) (a5 : Int) (i4 : Int) (j4 : Int) (t7 : Bool) (s8 : Heap) =>
  cndT t7 (arI .sub .i64 j4 1 fun t8 =>
  self2 data5 a5 i4 t8 s8) (cndT (cmpI .gtr i4 j4) (heH 16 s8 fun base2 s9 =>
  idxS 1 data5 a5 fun p5 =>
  ldI .i64 p5 s9 fun t9 =>
  idxS 1 data5 j4 fun p6 =>
  ldI .i64 p6 s9 fun t10 =>
  idxS 1 data5 j4 fun p7 =>
  stN 1 p7 [(.int .i64 t9)] s9 fun s10 =>
  idxS 1 data5 a5 fun p8 =>
  stN 1 p8 [(.int .i64 t10)] s10 fun s11 =>
  some ((.tuple #[.int .i64 j4, .bool true]), s11)) (heH 16 s8 fun base3 s12 =>
  idxS 1 data5 j4 fun p9 =>
  ldI .i64 p9 s12 fun t11 =>
  idxS 1 data5 i4 fun p10 =>
  ldI .i64 p10 s12 fun t12 =>
  idxS 1 data5 i4 fun p11 =>
  stN 1 p11 [(.int .i64 t11)] s12 fun s13 =>
  idxS 1 data5 j4 fun p12 =>
  stN 1 p12 [(.int .i64 t12)] s13 fun s14 =>
  arI .add .i64 i4 1 fun t13 =>
  arI .sub .i64 j4 1 fun t14 =>
  loopN (botJ [.v, .i .i64, .i .i64, .i .i64]) (fun self3 => fun (data6 : Value) (a6 : Int) (i5 : Int) (j5 : Int) (s15 : Heap) =>
  loopN (botJ [.v, .i .i64, .i .i64, .i .i64]) (fun self4 => fun (data7 : Value) (a7 : Int) (i6 : Int) (j6 : Int) (s16 : Heap) =>
  joinK (fun (data8 : Value) (a8 : Int) (i7 : Int) (j7 : Int) (t15 : Bool) (s17 : Heap) =>
  cndT t15 (arI .add .i64 i7 1 fun t16 =>
  self4 data8 a8 t16 j7 s17) (loopN (botJ [.v, .i .i64, .i .i64, .i .i64]) (fun self5 => fun (data9 : Value) (a9 : Int) (i8 : Int) (j8 : Int) (s18 : Heap) =>
  joinK (fun (data10 : Value) (a10 : Int) (i9 : Int) (j9 : Int) (t17 : Bool) (s19 : Heap) =>
  cndT t17 (arI .sub .i64 j9 1 fun t18 =>
  self5 data10 a10 i9 t18 s19) (cndT (cmpI .gtr i9 j9) (heH 16 s19 fun base4 s20 =>
  idxS 1 data10 a10 fun p13 =>
  ldI .i64 p13 s20 fun t19 =>
  idxS 1 data10 j9 fun p14 =>
  ldI .i64 p14 s20 fun t20 =>
  idxS 1 data10 j9 fun p15 =>
  stN 1 p15 [(.int .i64 t19)] s20 fun s21 =>
  idxS 1 data10 a10 fun p16 =>
  stN 1 p16 [(.int .i64 t20)] s21 fun s22 =>
  some ((.tuple #[.int .i64 j9, .bool false]), s22)) (heH 16 s19 fun base5 s23 =>
  idxS 1 data10 j9 fun p17 =>
  ldI .i64 p17 s23 fun t21 =>
  idxS 1 data10 i9 fun p18 =>
  ldI .i64 p18 s23 fun t22 =>
  idxS 1 data10 i9 fun p19 =>
  stN 1 p19 [(.int .i64 t21)] s23 fun s24 =>
  idxS 1 data10 j9 fun p20 =>
  stN 1 p20 [(.int .i64 t22)] s24 fun s25 =>
  arI .add .i64 i9 1 fun t23 =>
  arI .sub .i64 j9 1 fun t24 =>
  self3 data10 a10 t23 t24 s25))) fun J4 =>
  heH 15 s18 fun base6 s26 =>
  cndT (cmpI .leq i8 j8) (idxS 1 data9 j8 fun p21 =>
  ldI .i64 p21 s26 fun t25 =>
  idxS 1 data9 a9 fun p22 =>
  ldI .i64 p22 s26 fun t26 =>
  (callJ [.b] R (.fn 103 #[.int .i64 t25, .int .i64 t26]) s26 fun (r1 : Bool) (s27 : Heap) =>
  J4 data9 a9 i8 j8 (!r1) s27)) (J4 data9 a9 i8 j8 false s26)) L data8 a8 i7 j7 s17)) fun J3 =>
  heH 14 s16 fun base7 s28 =>
  cndT (cmpI .leq i6 j6) (idxS 1 data7 i6 fun p23 =>
  ldI .i64 p23 s28 fun t27 =>
  idxS 1 data7 a7 fun p24 =>
  ldI .i64 p24 s28 fun t28 =>
  (callJ [.b] R (.fn 103 #[.int .i64 t27, .int .i64 t28]) s28 fun (r2 : Bool) (s29 : Heap) =>
  J3 data7 a7 i6 j6 r2 s29)) (J3 data7 a7 i6 j6 false s28)) L data6 a6 i5 j5 s15) L data5 a5 t13 t14 s14))) fun J2 =>
  heH 15 s7 fun base8 s30 =>
  cndT (cmpI .leq i3 j3) (idxS 1 data4 j3 fun p25 =>
  ldI .i64 p25 s30 fun t29 =>
  idxS 1 data4 a4 fun p26 =>
  ldI .i64 p26 s30 fun t30 =>
  (callJ [.b] R (.fn 103 #[.int .i64 t29, .int .i64 t30]) s30 fun (r3 : Bool) (s31 : Heap) =>
  J2 data4 a4 i3 j3 (!r3) s31)) (J2 data4 a4 i3 j3 false s30)) L data3 a3 i2 j2 s6)) fun J1 =>
  heH 14 s5 fun base9 s32 =>
  cndT (cmpI .leq i1 j1) (idxS 1 data2 i1 fun p27 =>
  ldI .i64 p27 s32 fun t31 =>
  idxS 1 data2 a2 fun p28 =>
  ldI .i64 p28 s32 fun t32 =>
  (callJ [.b] R (.fn 103 #[.int .i64 t31, .int .i64 t32]) s32 fun (r4 : Bool) (s33 : Heap) =>
  J1 data2 a2 i1 j1 r4 s33)) (J1 data2 a2 i1 j1 false s32)) L data1 a1 t3 t4 s4
def g118A : Ann := (.s .d (.s .d (.s .d (.s (.b (.l [(0, .v), (1, .i .i64), (10, .i .i64), (11, .i .i64)] (.s (.j [(0, .v), (1, .i .i64), (10, .i .i64), (11, .i .i64), (43, .b)] .d (.c .d .d)) (.b .d)))) (.s (.b (.l [(0, .v), (1, .i .i64), (10, .i .i64), (11, .i .i64)] (.s (.j [(0, .v), (1, .i .i64), (10, .i .i64), (11, .i .i64), (60, .b)] .d (.c .d .d)) (.b .d)))) (.s (.s .d (.c (.s .d (.s .d .d)) .d)) (.s .d (.s .d (.s .d (.s (.b (.l [(0, .v), (1, .i .i64), (10, .i .i64), (11, .i .i64)] (.b (.s (.b (.l [(0, .v), (1, .i .i64), (10, .i .i64), (11, .i .i64)] (.s (.j [(0, .v), (1, .i .i64), (10, .i .i64), (11, .i .i64), (112, .b)] .d (.c .d .d)) (.b .d)))) (.s (.b (.l [(0, .v), (1, .i .i64), (10, .i .i64), (11, .i .i64)] (.s (.j [(0, .v), (1, .i .i64), (10, .i .i64), (11, .i .i64), (129, .b)] .d (.c .d .d)) (.b .d)))) (.s (.s .d (.c .d .d)) (.s .d (.s .d .d)))))))) (.s .d (.s .d .d))))))))))))
theorem g118E (R : Idl.Callee) (L : Nat) : funT Tryz.prog R L Tryz.f118 g118A [.v, .i .i64, .i .i64, .i .i64] = g118 R L := by kernel_rfl
/-- (incipit/docs.starts).at$1 -/
def g119 (R : Idl.Callee) (L : Nat) : JT [.i .i64, .v, .v] := fun (i1 : Int) (t1 : Value) (t2 : Value) (s1 : Heap) =>
  heH 7 s1 fun base1 s2 =>
  ldV t1 s2 fun t3 =>
  idxS 1 t3 i1 fun p1 =>
  ldI .i64 p1 s2 fun t4 =>
  ldI .i64 t2 s2 fun t5 =>
  some (.bool (cmpI .gtr t4 t5), s2)
def g119A : Ann := (.s .d (.s .d .d))
theorem g119E (R : Idl.Callee) (L : Nat) : funT Tryz.prog R L Tryz.f119 g119A [.i .i64, .v, .v] = g119 R L := by kernel_rfl
/-- slices.siftDownCmpFunc[incipit/index.Hit] -/
def g120 (R : Idl.Callee) (L : Nat) : JT [.v, .i .i64, .i .i64, .i .i64, .v] := fun (data1 : Value) (lo1 : Int) (hi1 : Int) (first1 : Int) (cmp1 : Value) (s1 : Heap) =>
  loopN (botJ [.v, .i .i64, .i .i64, .v, .i .i64]) (fun self1 => fun (data2 : Value) (hi2 : Int) (first2 : Int) (cmp2 : Value) (root1 : Int) (s2 : Heap) =>
  arI .mul .i64 2 root1 fun t1 =>
  arI .add .i64 t1 1 fun t2 =>
  cndT (cmpI .geq t2 hi2) (some ((.tuple #[]), s2)) (joinK (fun (data3 : Value) (hi3 : Int) (first3 : Int) (cmp3 : Value) (root2 : Int) (child1 : Int) (s3 : Heap) =>
  heH 16 s3 fun base1 s4 =>
  arI .add .i64 first3 root2 fun t3 =>
  idxS 2 data3 t3 fun p1 =>
  ldG 2 p1 s4 fun t4 =>
  arI .add .i64 first3 child1 fun t5 =>
  idxS 2 data3 t5 fun p2 =>
  ldG 2 p2 s4 fun t6 =>
  fnOf cmp3 [.agg t4.toArray, .agg t6.toArray] fun tg1 =>
  (callJ [.i .i64] R tg1 s4 fun (r1 : Int) (s5 : Heap) =>
  cndT (!(cmpI .lss r1 0)) (some ((.tuple #[]), s5)) (heH 24 s5 fun base2 s6 =>
  arI .add .i64 first3 root2 fun t7 =>
  arI .add .i64 first3 child1 fun t8 =>
  idxS 2 data3 t8 fun p3 =>
  ldG 2 p3 s6 fun t9 =>
  arI .add .i64 first3 root2 fun t10 =>
  idxS 2 data3 t10 fun p4 =>
  ldG 2 p4 s6 fun t11 =>
  idxS 2 data3 t7 fun p5 =>
  stN 2 p5 t9 s6 fun s7 =>
  arI .add .i64 first3 child1 fun t12 =>
  idxS 2 data3 t12 fun p6 =>
  stN 2 p6 t11 s7 fun s8 =>
  self1 data3 hi3 first3 cmp3 child1 s8))) fun J1 =>
  joinK (fun (data4 : Value) (hi4 : Int) (first4 : Int) (cmp4 : Value) (root3 : Int) (child2 : Int) (t13 : Bool) (s9 : Heap) =>
  cndT t13 (arI .add .i64 child2 1 fun t14 =>
  J1 data4 hi4 first4 cmp4 root3 t14 s9) (J1 data4 hi4 first4 cmp4 root3 child2 s9)) fun J2 =>
  heH 22 s2 fun base3 s10 =>
  arI .add .i64 t2 1 fun t15 =>
  cndT (cmpI .lss t15 hi2) (arI .add .i64 first2 t2 fun t16 =>
  idxS 2 data2 t16 fun p7 =>
  ldG 2 p7 s10 fun t17 =>
  arI .add .i64 first2 t2 fun t18 =>
  arI .add .i64 t18 1 fun t19 =>
  idxS 2 data2 t19 fun p8 =>
  ldG 2 p8 s10 fun t20 =>
  fnOf cmp2 [.agg t17.toArray, .agg t20.toArray] fun tg2 =>
  (callJ [.i .i64] R tg2 s10 fun (r2 : Int) (s11 : Heap) =>
  J2 data2 hi2 first2 cmp2 root1 t2 (cmpI .lss r2 0) s11)) (J2 data2 hi2 first2 cmp2 root1 t2 false s10))) L data1 hi1 first1 cmp1 lo1 s1
def g120A : Ann := (.s .d (.b (.l [(0, .v), (2, .i .i64), (3, .i .i64), (4, .v), (10, .i .i64)] (.b (.s .d (.s (.s .d (.c .d .d)) (.j [(0, .v), (2, .i .i64), (3, .i .i64), (4, .v), (10, .i .i64), (11, .i .i64)] (.j [(0, .v), (2, .i .i64), (3, .i .i64), (4, .v), (10, .i .i64), (11, .i .i64), (40, .b)] .d (.c .d .d)) (.s (.s .d (.c .d .d)) (.s .d .d)))))))))
theorem g120E (R : Idl.Callee) (L : Nat) : funT Tryz.prog R L Tryz.f120 g120A [.v, .i .i64, .i .i64, .i .i64, .v] = g120 R L := by kernel_rfl
end
end Go.Proofs.YtpddlhbhpncfaaaGreat
