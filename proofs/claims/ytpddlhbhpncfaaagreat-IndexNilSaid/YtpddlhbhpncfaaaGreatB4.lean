/- Typed forms of functions, printed by a program of our own. -/
import Derived.Test.YtpddlhbhpncfaaaGreatProg
import Derived.KernelRfl
import Derived.Test.YtpddlhbhpncfaaaGreatIa5
namespace Go.Proofs.YtpddlhbhpncfaaaGreat
open Go Go.Idl
set_option linter.unusedVariables false
noncomputable section
/-- slices.BinarySearch[[]int,int] -/
def g63 (R : Idl.Callee) (L : Nat) : JT [.v, .i .i64] := fun (x1 : Value) (target1 : Int) (s1 : Heap) =>
  lenV x1 fun n1 =>
  loopN (botJ [.v, .i .i64, .i .i64, .i .i64, .i .i64]) (fun self1 => fun (x2 : Value) (target2 : Int) (n2 : Int) (i1 : Int) (j1 : Int) (s2 : Heap) =>
  cndT (cmpI .lss i1 j1) (arI .add .i64 i1 j1 fun t1 =>
  bdI (wr .u64 t1) fun t2 =>
  arI .shr .u64 t2 1 fun t3 =>
  bdI (wr .i64 t3) fun t4 =>
  idxS 1 x2 t4 fun p1 =>
  ldI .i64 p1 s2 fun t5 =>
  (callJ [.b] R (.fn 103 #[.int .i64 t5, .int .i64 target2]) s2 fun (r1 : Bool) (s3 : Heap) =>
  cndT r1 (arI .add .i64 t4 1 fun t6 =>
  self1 x2 target2 n2 t6 j1 s3) (self1 x2 target2 n2 i1 t4 s3))) (cndT (cmpI .lss i1 n2) (idxS 1 x2 i1 fun p2 =>
  ldI .i64 p2 s2 fun t7 =>
  cndT (cmpI .eql t7 target2) (some ((.tuple #[.int .i64 i1, .bool true]), s2)) (idxS 1 x2 i1 fun p3 =>
  ldI .i64 p3 s2 fun t8 =>
  (callJ [.b] R (.fn 104 #[.int .i64 t8]) s2 fun (r2 : Bool) (s4 : Heap) =>
  cndT r2 ((callJ [.b] R (.fn 104 #[.int .i64 target2]) s4 fun (r3 : Bool) (s5 : Heap) =>
  some ((.tuple #[.int .i64 i1, .bool r3]), s5))) (some ((.tuple #[.int .i64 i1, .bool false]), s4))))) (some ((.tuple #[.int .i64 i1, .bool false]), s2)))) L x1 target1 n1 0 n1 s1
def g63A : Ann := (.s .d (.s .d (.s .d (.s (.b (.l [(0, .v), (1, .i .i64), (6, .i .i64), (7, .i .i64), (8, .i .i64)] (.s (.s .d (.c .d .d)) (.b (.s .d (.s .d (.c .d .d))))))) (.s .d .d)))))
theorem g63E (R : Idl.Callee) (L : Nat) : funT Tryz.prog R L Tryz.f63 g63A [.v, .i .i64] = g63 R L := by kernel_rfl
/-- (*incipit/wavelet.Matrix).Rank -/
def g64 (R : Idl.Callee) (L : Nat) : JT [.v, .i .i64, .i .i64] := fun (m1 : Value) (code1 : Int) (i1 : Int) (s1 : Heap) =>
  (callJ [.i .i64] R (.fn 105 #[m1, .int .i64 i1]) s1 fun (r1 : Int) (s2 : Heap) =>
  cndT (cmpI .neq r1 0) (some ((.tuple #[.int .i64 0, .int .i64 r1]), s2)) ((callJ [.b] R (.fn 106 #[m1, .int .i64 code1]) s2 fun (r2 : Bool) (s3 : Heap) =>
  cndT (!r2) (some ((.tuple #[.int .i64 0, .int .i64 0]), s3)) (nchk m1 fun p1 =>
  fldP p1 1 fun p2 =>
  ldV p2 s3 fun t1 =>
  lenV t1 fun n1 =>
  loopN (botJ [.v, .i .i64, .i .i64, .i .i64, .v, .i .i64, .i .i64]) (fun self1 => fun (m2 : Value) (code2 : Int) (i2 : Int) (fromq1 : Int) (t2 : Value) (t3 : Int) (t4 : Int) (s4 : Heap) =>
  cndT (cmpI .lss t4 t3) (idxS 1 t2 t4 fun p3 =>
  ldV p3 s4 fun t5 =>
  (callJ [.b] R (.fn 107 #[m2, .int .i64 code2, .int .i64 t4]) s4 fun (r3 : Bool) (s5 : Heap) =>
  (callJ [.i .i64] R (.fn 108 #[t5, .bool r3, .int .i64 fromq1]) s5 fun (r4 : Int) (s6 : Heap) =>
  (callJ [.i .i64] R (.fn 108 #[t5, .bool r3, .int .i64 i2]) s6 fun (r5 : Int) (s7 : Heap) =>
  arI .add .i64 t4 1 fun t6 =>
  self1 m2 code2 r5 r4 t2 t3 t6 s7)))) (arI .sub .i64 i2 fromq1 fun t7 =>
  some ((.tuple #[.int .i64 t7, .int .i64 0]), s4))) L m1 code1 i1 0 t1 n1 0 s3))))
def g64A : Ann := (.s .d (.s (.s .d (.s .d (.c (.s .d .d) .d))) (.s (.s .d (.c (.s .d .d) .d)) (.s .d (.s (.s .d (.b (.l [(0, .v), (1, .i .i64), (2, .i .i64), (9, .i .i64), (26, .v), (27, .i .i64), (28, .i .i64)] (.s .d (.s (.c .d .d) (.s (.b (.s .d (.s .d .d))) .d)))))) (.s .d .d))))))
theorem g64E (R : Idl.Callee) (L : Nat) : funT Tryz.prog R L Tryz.f64 g64A [.v, .i .i64, .i .i64] = g64 R L := by kernel_rfl
/-- (*incipit/alpha.Table).C -/
def g65 (R : Idl.Callee) (L : Nat) : JT [.v, .i .i64] := fun (t1 : Value) (code1 : Int) (s1 : Heap) =>
  nilT .p t1 (.pointer none) fun c1 =>
  cndT (flipB true c1) (some ((.tuple #[.int .i64 0, .int .i64 11]), s1)) (joinK (fun (t2 : Value) (code2 : Int) (t3 : Bool) (s2 : Heap) =>
  cndT t3 (some ((.tuple #[.int .i64 0, .int .i64 10]), s2)) (nchk t2 fun p1 =>
  fldP p1 2 fun p2 =>
  ldV p2 s2 fun t4 =>
  idxS 1 t4 code2 fun p3 =>
  ldI .i64 p3 s2 fun t5 =>
  some ((.tuple #[.int .i64 t5, .int .i64 0]), s2))) fun J1 =>
  cndT (cmpI .lss code1 0) (J1 t1 code1 true s1) (nchk t1 fun p4 =>
  fldP p4 0 fun p5 =>
  ldV p5 s1 fun t6 =>
  lenV t6 fun n1 =>
  J1 t1 code1 (cmpI .gtr code1 n1) s1))
def g65A : Ann := (.s .d (.s (.b (.s .d (.c (.s .d .d) (.j [(0, .v), (1, .i .i64), (9, .b)] .d (.c (.s .d .d) .d))))) (.s .d .d)))
theorem g65E (R : Idl.Callee) (L : Nat) : funT Tryz.prog R L Tryz.f65 g65A [.v, .i .i64] = g65 R L := by kernel_rfl
/-- (*incipit/sample.Samples).Marked -/
def g66 (R : Idl.Callee) (L : Nat) : JT [.v, .i .i64] := fun (s1 : Value) (atq1 : Int) (s2 : Heap) =>
  nilT .p s1 (.pointer none) fun c1 =>
  cndT (flipB true c1) (some ((.tuple #[.int .i64 0, .bool false]), s2)) (nchk s1 fun p1 =>
  fldP p1 1 fun p2 =>
  ldV p2 s2 fun t1 =>
  (callJ [.b, .i .i64] R (.fn 109 #[t1, .int .i64 atq1]) s2 fun (r1 : Bool) (r2 : Int) (s3 : Heap) =>
  joinK (fun (s4 : Value) (atq2 : Int) (t2 : Bool) (s5 : Heap) =>
  cndT t2 (some ((.tuple #[.int .i64 0, .bool false]), s5)) (nchk s4 fun p3 =>
  fldP p3 1 fun p4 =>
  ldV p4 s5 fun t3 =>
  (callJ [.i .i64, .i .i64] R (.fn 110 #[t3, .bool true, .int .i64 atq2]) s5 fun (r3 : Int) (r4 : Int) (s6 : Heap) =>
  nchk s4 fun p5 =>
  fldP p5 2 fun p6 =>
  ldV p6 s6 fun t4 =>
  (callJ [.i .i64, .i .i64] R (.fn 82 #[t4, .int .i64 r3]) s6 fun (r5 : Int) (r6 : Int) (s7 : Heap) =>
  nchk s4 fun p7 =>
  fldP p7 0 fun p8 =>
  ldI .i64 p8 s7 fun t5 =>
  arI .mul .i64 r5 t5 fun t6 =>
  some ((.tuple #[.int .i64 t6, .bool (cmpI .eql r6 0)]), s7))))) fun J1 =>
  cndT (cmpI .neq r2 0) (J1 s1 atq1 true s3) (J1 s1 atq1 (!r1) s3)))
def g66A : Ann := (.s .d (.s (.s .d (.c (.s .d .d) .d)) (.s (.s .d (.j [(0, .v), (1, .i .i64), (28, .b)] .d (.c (.s .d .d) .d))) (.s .d (.s .d (.s .d .d))))))
theorem g66E (R : Idl.Callee) (L : Nat) : funT Tryz.prog R L Tryz.f66 g66A [.v, .i .i64] = g66 R L := by kernel_rfl
/-- slices.pdqsortOrdered[int] -/
def g67 (R : Idl.Callee) (L : Nat) : JT [.v, .i .i64, .i .i64, .i .i64] := fun (data1 : Value) (a1 : Int) (b1 : Int) (limit1 : Int) (s1 : Heap) =>
  loopN (botJ [.v, .i .i64, .i .i64, .i .i64, .b, .b]) (fun self1 => fun (data2 : Value) (a2 : Int) (b2 : Int) (limit2 : Int) (wasBalanced1 : Bool) (wasPartitioned1 : Bool) (s2 : Heap) =>
  arI .sub .i64 b2 a2 fun t1 =>
  cndT (cmpI .leq t1 12) ((callJ [] R (.fn 111 #[data2, .int .i64 a2, .int .i64 b2]) s2 fun (s3 : Heap) =>
  some ((.tuple #[]), s3))) (cndT (cmpI .eql limit2 0) ((callJ [] R (.fn 112 #[data2, .int .i64 a2, .int .i64 b2]) s2 fun (s4 : Heap) =>
  some ((.tuple #[]), s4))) (joinK (fun (data3 : Value) (a3 : Int) (b3 : Int) (limit3 : Int) (wasBalanced2 : Bool) (wasPartitioned2 : Bool) (length1 : Int) (s5 : Heap) =>
  (callJ [.i .i64, .i .i64] R (.fn 114 #[data3, .int .i64 a3, .int .i64 b3]) s5 fun (r1 : Int) (r2 : Int) (s6 : Heap) =>
  joinK (fun (data4 : Value) (a4 : Int) (b4 : Int) (limit4 : Int) (wasBalanced3 : Bool) (wasPartitioned3 : Bool) (length2 : Int) (pivot1 : Int) (hint1 : Int) (s7 : Heap) =>
  joinK (fun (data5 : Value) (a5 : Int) (b5 : Int) (limit5 : Int) (wasBalanced4 : Bool) (wasPartitioned4 : Bool) (length3 : Int) (pivot2 : Int) (s8 : Heap) =>
  joinK (fun (data6 : Value) (a6 : Int) (b6 : Int) (limit6 : Int) (wasBalanced5 : Bool) (wasPartitioned5 : Bool) (length4 : Int) (pivot3 : Int) (t2 : Bool) (s9 : Heap) =>
  cndT t2 ((callJ [.i .i64] R (.fn 117 #[data6, .int .i64 a6, .int .i64 b6, .int .i64 pivot3]) s9 fun (r3 : Int) (s10 : Heap) =>
  self1 data6 r3 b6 limit6 wasBalanced5 wasPartitioned5 s10)) ((callJ [.i .i64, .b] R (.fn 118 #[data6, .int .i64 a6, .int .i64 b6, .int .i64 pivot3]) s9 fun (r4 : Int) (r5 : Bool) (s11 : Heap) =>
  arI .sub .i64 r4 a6 fun t3 =>
  arI .sub .i64 b6 r4 fun t4 =>
  arI .quo .i64 length4 8 fun t5 =>
  cndT (cmpI .lss t3 t4) ((callJ [] R (.fn 67 #[data6, .int .i64 a6, .int .i64 r4, .int .i64 limit6]) s11 fun (s12 : Heap) =>
  arI .add .i64 r4 1 fun t6 =>
  self1 data6 t6 b6 limit6 (cmpI .geq t3 t5) r5 s12)) (arI .add .i64 r4 1 fun t7 =>
  (callJ [] R (.fn 67 #[data6, .int .i64 t7, .int .i64 b6, .int .i64 limit6]) s11 fun (s13 : Heap) =>
  self1 data6 a6 r4 limit6 (cmpI .geq t4 t5) r5 s13))))) fun J4 =>
  heH 15 s8 fun base1 s14 =>
  cndT (cmpI .gtr a5 0) (arI .sub .i64 a5 1 fun t8 =>
  idxS 1 data5 t8 fun p1 =>
  ldI .i64 p1 s14 fun t9 =>
  idxS 1 data5 pivot2 fun p2 =>
  ldI .i64 p2 s14 fun t10 =>
  (callJ [.b] R (.fn 103 #[.int .i64 t9, .int .i64 t10]) s14 fun (r6 : Bool) (s15 : Heap) =>
  J4 data5 a5 b5 limit5 wasBalanced4 wasPartitioned4 length3 pivot2 (!r6) s15)) (J4 data5 a5 b5 limit5 wasBalanced4 wasPartitioned4 length3 pivot2 false s14)) fun J3 =>
  joinK (fun (data7 : Value) (a7 : Int) (b7 : Int) (limit7 : Int) (wasBalanced6 : Bool) (wasPartitioned6 : Bool) (length5 : Int) (pivot4 : Int) (t11 : Bool) (s16 : Heap) =>
  cndT t11 ((callJ [.b] R (.fn 116 #[data7, .int .i64 a7, .int .i64 b7]) s16 fun (r7 : Bool) (s17 : Heap) =>
  cndT r7 (some ((.tuple #[]), s17)) (J3 data7 a7 b7 limit7 wasBalanced6 wasPartitioned6 length5 pivot4 s17))) (J3 data7 a7 b7 limit7 wasBalanced6 wasPartitioned6 length5 pivot4 s16)) fun J5 =>
  cndT wasBalanced3 (cndT wasPartitioned3 (J5 data4 a4 b4 limit4 wasBalanced3 wasPartitioned3 length2 pivot1 (cmpI .eql hint1 1) s7) (J5 data4 a4 b4 limit4 wasBalanced3 wasPartitioned3 length2 pivot1 false s7)) (J5 data4 a4 b4 limit4 wasBalanced3 wasPartitioned3 length2 pivot1 false s7)) fun J2 =>
  cndT (cmpI .eql r2 2) ((callJ [] R (.fn 115 #[data3, .int .i64 a3, .int .i64 b3]) s6 fun (s18 : Heap) =>
  arI .sub .i64 b3 1 fun t12 =>
  arI .sub .i64 r1 a3 fun t13 =>
  arI .sub .i64 t12 t13 fun t14 =>
  J2 data3 a3 b3 limit3 wasBalanced2 wasPartitioned2 length1 t14 1 s18)) (J2 data3 a3 b3 limit3 wasBalanced2 wasPartitioned2 length1 r1 r2 s6))) fun J1 =>
  cndT (!wasBalanced1) ((callJ [] R (.fn 113 #[data2, .int .i64 a2, .int .i64 b2]) s2 fun (s19 : Heap) =>
  arI .sub .i64 limit2 1 fun t15 =>
  J1 data2 a2 b2 t15 wasBalanced1 wasPartitioned1 t1 s19)) (J1 data2 a2 b2 limit2 wasBalanced1 wasPartitioned1 t1 s2)))) L data1 a1 b1 limit1 true true s1
def g67A : Ann := (.s .d (.s .d (.b (.l [(0, .v), (1, .i .i64), (2, .i .i64), (3, .i .i64), (8, .b), (9, .b)] (.b (.s .d (.s (.s .d (.c (.s .d .d) .d)) (.s (.s .d (.c (.s .d .d) .d)) (.j [(0, .v), (1, .i .i64), (2, .i .i64), (3, .i .i64), (8, .b), (9, .b), (10, .i .i64)] (.s .d (.c (.s .d .d) .d)) (.s .d (.j [(0, .v), (1, .i .i64), (2, .i .i64), (3, .i .i64), (8, .b), (9, .b), (10, .i .i64), (11, .i .i64), (12, .i .i64)] (.s .d (.c (.s .d (.s .d .d)) .d)) (.j [(0, .v), (1, .i .i64), (2, .i .i64), (3, .i .i64), (8, .b), (9, .b), (10, .i .i64), (11, .i .i64)] (.j [(0, .v), (1, .i .i64), (2, .i .i64), (3, .i .i64), (8, .b), (9, .b), (10, .i .i64), (11, .i .i64), (68, .b)] .d (.c (.s .d (.c .d .d)) .d)) (.s (.j [(0, .v), (1, .i .i64), (2, .i .i64), (3, .i .i64), (8, .b), (9, .b), (10, .i .i64), (11, .i .i64), (87, .b)] .d (.c (.s .d (.s .d .d)) .d)) (.s .d (.s .d (.s .d (.s .d (.s .d (.c (.s .d (.s .d .d)) (.s .d (.s .d .d)))))))))))))))))))))
theorem g67E (R : Idl.Callee) (L : Nat) : funT Tryz.prog R L Tryz.f67 g67A [.v, .i .i64, .i .i64, .i .i64] = g67 R L := by kernel_rfl
/-- (incipit/docs.starts).end -/
def g68 (R : Idl.Callee) (L : Nat) : JT [.v] := fun (s1 : Value) (s2 : Heap) =>
  lenV s1 fun n1 =>
  arI .sub .i64 n1 1 fun t1 =>
  idxS 1 s1 t1 fun p1 =>
  ldI .i64 p1 s2 fun t2 =>
  some (.int .i64 t2, s2)
def g68A : Ann := (.s .d (.s .d .d))
theorem g68E (R : Idl.Callee) (L : Nat) : funT Tryz.prog R L Tryz.f68 g68A [.v] = g68 R L := by kernel_rfl
/-- (incipit/docs.starts).at -/
def g69 (R : Idl.Callee) (L : Nat) : JT [.v, .i .i64] := fun (s1 : Value) (place1 : Int) (s2 : Heap) =>
  newO (mkRow [s1]) s2 fun id1 s3 =>
  newO (mkRow [(.int .i64 place1)]) s3 fun id2 s4 =>
  ldV (ptrTo id1) s4 fun t1 =>
  lenV t1 fun n1 =>
  (callJ [.i .i64] R (.fn 84 #[.int .i64 n1, (.func (.func 119) #[] #[(ptrTo id1), (ptrTo id2)])]) s4 fun (r1 : Int) (s5 : Heap) =>
  arI .sub .i64 r1 1 fun t2 =>
  some (.int .i64 t2, s5))
def g69A : Ann := (.s .d (.s .d .d))
theorem g69E (R : Idl.Callee) (L : Nat) : funT Tryz.prog R L Tryz.f69 g69A [.v, .i .i64] = g69 R L := by kernel_rfl
/-- slices.insertionSortCmpFunc[incipit/index.Hit] -/
def g70 (R : Idl.Callee) (L : Nat) : JT [.v, .i .i64, .i .i64, .v] := fun (data1 : Value) (a1 : Int) (b1 : Int) (cmp1 : Value) (s1 : Heap) =>
  arI .add .i64 a1 1 fun t1 =>
  loopN (botJ [.v, .i .i64, .i .i64, .v, .i .i64]) (fun self1 => fun (data2 : Value) (a2 : Int) (b2 : Int) (cmp2 : Value) (i1 : Int) (s2 : Heap) =>
  cndT (cmpI .lss i1 b2) (loopN (botJ [.v, .i .i64, .i .i64, .v, .i .i64, .i .i64]) (fun self2 => fun (data3 : Value) (a3 : Int) (b3 : Int) (cmp3 : Value) (i2 : Int) (j1 : Int) (s3 : Heap) =>
  joinK (fun (data4 : Value) (a4 : Int) (b4 : Int) (cmp4 : Value) (i3 : Int) (j2 : Int) (t2 : Bool) (s4 : Heap) =>
  cndT t2 (heH 18 s4 fun base1 s5 =>
  arI .sub .i64 j2 1 fun t3 =>
  idxS 2 data4 t3 fun p1 =>
  ldG 2 p1 s5 fun t4 =>
  idxS 2 data4 j2 fun p2 =>
  ldG 2 p2 s5 fun t5 =>
  idxS 2 data4 j2 fun p3 =>
  stN 2 p3 t4 s5 fun s6 =>
  arI .sub .i64 j2 1 fun t6 =>
  idxS 2 data4 t6 fun p4 =>
  stN 2 p4 t5 s6 fun s7 =>
  arI .sub .i64 j2 1 fun t7 =>
  self2 data4 a4 b4 cmp4 i3 t7 s7) (arI .add .i64 i3 1 fun t8 =>
  self1 data4 a4 b4 cmp4 t8 s4)) fun J1 =>
  heH 17 s3 fun base2 s8 =>
  cndT (cmpI .gtr j1 a3) (idxS 2 data3 j1 fun p5 =>
  ldG 2 p5 s8 fun t9 =>
  arI .sub .i64 j1 1 fun t10 =>
  idxS 2 data3 t10 fun p6 =>
  ldG 2 p6 s8 fun t11 =>
  fnOf cmp3 [.agg t9.toArray, .agg t11.toArray] fun tg1 =>
  (callJ [.i .i64] R tg1 s8 fun (r1 : Int) (s9 : Heap) =>
  J1 data3 a3 b3 cmp3 i2 j1 (cmpI .lss r1 0) s9)) (J1 data3 a3 b3 cmp3 i2 j1 false s8)) L data2 a2 b2 cmp2 i1 i1 s2) (some ((.tuple #[]), s2))) L data1 a1 b1 cmp1 t1 s1
def g70A : Ann := (.s .d (.b (.l [(0, .v), (1, .i .i64), (2, .i .i64), (3, .v), (8, .i .i64)] (.s (.s .d (.c .d .d)) (.s (.b (.s .d (.b (.l [(0, .v), (1, .i .i64), (2, .i .i64), (3, .v), (8, .i .i64), (9, .i .i64)] (.s (.j [(0, .v), (1, .i .i64), (2, .i .i64), (3, .v), (8, .i .i64), (9, .i .i64), (34, .b)] .d (.c .d .d)) (.s (.b .d) .d)))))) .d)))))
theorem g70E (R : Idl.Callee) (L : Nat) : funT Tryz.prog R L Tryz.f70 g70A [.v, .i .i64, .i .i64, .v] = g70 R L := by kernel_rfl
/-- slices.heapSortCmpFunc[incipit/index.Hit] -/
def g71 (R : Idl.Callee) (L : Nat) : JT [.v, .i .i64, .i .i64, .v] := fun (data1 : Value) (a1 : Int) (b1 : Int) (cmp1 : Value) (s1 : Heap) =>
  arI .sub .i64 b1 a1 fun t1 =>
  arI .sub .i64 t1 1 fun t2 =>
  arI .quo .i64 t2 2 fun t3 =>
  loopN (botJ [.v, .v, .i .i64, .i .i64, .i .i64, .i .i64]) (fun self1 => fun (data2 : Value) (cmp2 : Value) (first1 : Int) (lo1 : Int) (hi1 : Int) (i1 : Int) (s2 : Heap) =>
  cndT (cmpI .geq i1 0) ((callJ [] R (.fn 120 #[data2, .int .i64 i1, .int .i64 hi1, .int .i64 first1, cmp2]) s2 fun (s3 : Heap) =>
  arI .sub .i64 i1 1 fun t4 =>
  self1 data2 cmp2 first1 lo1 hi1 t4 s3)) (arI .sub .i64 hi1 1 fun t5 =>
  loopN (botJ [.v, .v, .i .i64, .i .i64, .i .i64]) (fun self2 => fun (data3 : Value) (cmp3 : Value) (first2 : Int) (lo2 : Int) (i2 : Int) (s4 : Heap) =>
  cndT (cmpI .geq i2 0) (heH 20 s4 fun base1 s5 =>
  arI .add .i64 first2 i2 fun t6 =>
  idxS 2 data3 t6 fun p1 =>
  ldG 2 p1 s5 fun t7 =>
  idxS 2 data3 first2 fun p2 =>
  ldG 2 p2 s5 fun t8 =>
  idxS 2 data3 first2 fun p3 =>
  stN 2 p3 t7 s5 fun s6 =>
  arI .add .i64 first2 i2 fun t9 =>
  idxS 2 data3 t9 fun p4 =>
  stN 2 p4 t8 s6 fun s7 =>
  (callJ [] R (.fn 120 #[data3, .int .i64 lo2, .int .i64 i2, .int .i64 first2, cmp3]) s7 fun (s8 : Heap) =>
  arI .sub .i64 i2 1 fun t10 =>
  self2 data3 cmp3 first2 lo2 t10 s8)) (some ((.tuple #[]), s4))) L data2 cmp2 first1 lo1 t5 s2)) L data1 cmp1 a1 0 t1 t3 s1
def g71A : Ann := (.s .d (.s .d (.s .d (.s (.s .d (.b (.l [(0, .v), (3, .v), (8, .i .i64), (9, .i .i64), (10, .i .i64), (11, .i .i64)] (.s (.s .d (.c .d .d)) (.s (.b .d) .d))))) (.s .d (.b (.l [(0, .v), (3, .v), (8, .i .i64), (9, .i .i64), (12, .i .i64)] (.s (.s .d (.c .d .d)) (.s (.b (.s .d .d)) .d)))))))))
theorem g71E (R : Idl.Callee) (L : Nat) : funT Tryz.prog R L Tryz.f71 g71A [.v, .i .i64, .i .i64, .v] = g71 R L := by kernel_rfl
/-- slices.breakPatternsCmpFunc[incipit/index.Hit] -/
def g72 (R : Idl.Callee) (L : Nat) : JT [.v, .i .i64, .i .i64, .v] := fun (data1 : Value) (a1 : Int) (b1 : Int) (cmp1 : Value) (s1 : Heap) =>
  arI .sub .i64 b1 a1 fun t1 =>
  cndT (cmpI .geq t1 8) (bdI (wr .u64 t1) fun t2 =>
  newO (mkRow [.int .u64 0]) s1 fun id1 s2 =>
  stN 1 (ptrTo id1) [(.int .u64 t2)] s2 fun s3 =>
  (callJ [.i .u64] R (.fn 121 #[.int .i64 t1]) s3 fun (r1 : Int) (s4 : Heap) =>
  arI .quo .i64 t1 4 fun t3 =>
  arI .mul .i64 t3 2 fun t4 =>
  arI .add .i64 a1 t4 fun t5 =>
  arI .sub .i64 t5 1 fun t6 =>
  loopN (botJ [.v, .i .i64, .i .i64, .v, .i .u64, .i .i64]) (fun self1 => fun (data2 : Value) (a2 : Int) (length1 : Int) (random1 : Value) (modulus1 : Int) (idx1 : Int) (s5 : Heap) =>
  arI .quo .i64 length1 4 fun t7 =>
  arI .mul .i64 t7 2 fun t8 =>
  arI .add .i64 a2 t8 fun t9 =>
  arI .add .i64 t9 1 fun t10 =>
  cndT (cmpI .leq idx1 t10) ((callJ [.i .u64] R (.fn 122 #[random1]) s5 fun (r2 : Int) (s6 : Heap) =>
  arI .sub .u64 modulus1 1 fun t11 =>
  arI .and .u64 r2 t11 fun t12 =>
  bdI (wr .i64 t12) fun t13 =>
  joinK (fun (data3 : Value) (a3 : Int) (length2 : Int) (random2 : Value) (modulus2 : Int) (idx2 : Int) (other1 : Int) (s7 : Heap) =>
  heH 20 s7 fun base1 s8 =>
  arI .add .i64 a3 other1 fun t14 =>
  idxS 2 data3 t14 fun p1 =>
  ldG 2 p1 s8 fun t15 =>
  idxS 2 data3 idx2 fun p2 =>
  ldG 2 p2 s8 fun t16 =>
  idxS 2 data3 idx2 fun p3 =>
  stN 2 p3 t15 s8 fun s9 =>
  arI .add .i64 a3 other1 fun t17 =>
  idxS 2 data3 t17 fun p4 =>
  stN 2 p4 t16 s9 fun s10 =>
  arI .add .i64 idx2 1 fun t18 =>
  self1 data3 a3 length2 random2 modulus2 t18 s10) fun J1 =>
  cndT (cmpI .geq t13 length1) (arI .sub .i64 t13 length1 fun t19 =>
  J1 data2 a2 length1 random1 modulus1 idx1 t19 s6) (J1 data2 a2 length1 random1 modulus1 idx1 t13 s6))) (some ((.tuple #[]), s5))) L data1 a1 t1 (ptrTo id1) r1 t6 s4)) (some ((.tuple #[]), s1))
def g72A : Ann := (.s .d (.s .d (.c (.s .d (.s .d (.s .d (.b (.l [(0, .v), (1, .i .i64), (8, .i .i64), (9, .v), (10, .i .u64), (11, .i .i64)] (.s (.s .d (.c .d .d)) (.s (.b (.s .d (.j [(0, .v), (1, .i .i64), (8, .i .i64), (9, .v), (10, .i .u64), (11, .i .i64), (12, .i .i64)] (.s .d (.c .d .d)) .d))) .d))))))) .d)))
theorem g72E (R : Idl.Callee) (L : Nat) : funT Tryz.prog R L Tryz.f72 g72A [.v, .i .i64, .i .i64, .v] = g72 R L := by kernel_rfl
/-- slices.choosePivotCmpFunc[incipit/index.Hit] -/
def g73 (R : Idl.Callee) (L : Nat) : JT [.v, .i .i64, .i .i64, .v] := fun (data1 : Value) (a1 : Int) (b1 : Int) (cmp1 : Value) (s1 : Heap) =>
  arI .sub .i64 b1 a1 fun t1 =>
  newO (mkRow [.int .i64 0]) s1 fun id1 s2 =>
  arI .quo .i64 t1 4 fun t2 =>
  arI .mul .i64 t2 1 fun t3 =>
  arI .add .i64 a1 t3 fun t4 =>
  arI .quo .i64 t1 4 fun t5 =>
  arI .mul .i64 t5 2 fun t6 =>
  arI .add .i64 a1 t6 fun t7 =>
  arI .quo .i64 t1 4 fun t8 =>
  arI .mul .i64 t8 3 fun t9 =>
  arI .add .i64 a1 t9 fun t10 =>
  joinK (fun (swaps1 : Value) (j1 : Int) (s3 : Heap) =>
  ldI .i64 swaps1 s3 fun t11 =>
  cndT (cmpI .eql t11 0) (some ((.tuple #[.int .i64 j1, .int .i64 1]), s3)) (cndT (cmpI .eql t11 12) (some ((.tuple #[.int .i64 j1, .int .i64 2]), s3)) (some ((.tuple #[.int .i64 j1, .int .i64 0]), s3)))) fun J1 =>
  cndT (cmpI .geq t1 8) (joinK (fun (data2 : Value) (cmp2 : Value) (swaps2 : Value) (i1 : Int) (j2 : Int) (k1 : Int) (s4 : Heap) =>
  (callJ [.i .i64] R (.fn 124 #[data2, .int .i64 i1, .int .i64 j2, .int .i64 k1, swaps2, cmp2]) s4 fun (r1 : Int) (s5 : Heap) =>
  J1 swaps2 r1 s5)) fun J2 =>
  cndT (cmpI .geq t1 50) ((callJ [.i .i64] R (.fn 123 #[data1, .int .i64 t4, (ptrTo id1), cmp1]) s2 fun (r2 : Int) (s6 : Heap) =>
  (callJ [.i .i64] R (.fn 123 #[data1, .int .i64 t7, (ptrTo id1), cmp1]) s6 fun (r3 : Int) (s7 : Heap) =>
  (callJ [.i .i64] R (.fn 123 #[data1, .int .i64 t10, (ptrTo id1), cmp1]) s7 fun (r4 : Int) (s8 : Heap) =>
  J2 data1 cmp1 (ptrTo id1) r2 r3 r4 s8)))) (J2 data1 cmp1 (ptrTo id1) t4 t7 t10 s2)) (J1 (ptrTo id1) t7 s2)
def g73A : Ann := (.s .d (.s .d (.s .d (.s .d (.s .d (.s .d (.j [(11, .v), (13, .i .i64)] (.s .d (.c (.j [(0, .v), (3, .v), (11, .v), (12, .i .i64), (13, .i .i64), (14, .i .i64)] (.s .d (.c (.s .d (.s .d .d)) .d)) .d) .d)) (.s .d (.b (.s .d (.c (.s .d .d) (.s .d (.c (.s .d .d) (.s .d .d))))))))))))))
theorem g73E (R : Idl.Callee) (L : Nat) : funT Tryz.prog R L Tryz.f73 g73A [.v, .i .i64, .i .i64, .v] = g73 R L := by kernel_rfl
/-- slices.reverseRangeCmpFunc[incipit/index.Hit] -/
def g74 (R : Idl.Callee) (L : Nat) : JT [.v, .i .i64, .i .i64, .v] := fun (data1 : Value) (a1 : Int) (b1 : Int) (cmp1 : Value) (s1 : Heap) =>
  arI .sub .i64 b1 1 fun t1 =>
  loopN (botJ [.v, .i .i64, .i .i64]) (fun self1 => fun (data2 : Value) (i1 : Int) (j1 : Int) (s2 : Heap) =>
  cndT (cmpI .lss i1 j1) (heH 16 s2 fun base1 s3 =>
  idxS 2 data2 j1 fun p1 =>
  ldG 2 p1 s3 fun t2 =>
  idxS 2 data2 i1 fun p2 =>
  ldG 2 p2 s3 fun t3 =>
  idxS 2 data2 i1 fun p3 =>
  stN 2 p3 t2 s3 fun s4 =>
  idxS 2 data2 j1 fun p4 =>
  stN 2 p4 t3 s4 fun s5 =>
  arI .add .i64 i1 1 fun t4 =>
  arI .sub .i64 j1 1 fun t5 =>
  self1 data2 t4 t5 s5) (some ((.tuple #[]), s2))) L data1 a1 t1 s1
def g74A : Ann := (.s .d (.s .d (.b (.l [(0, .v), (8, .i .i64), (9, .i .i64)] (.s (.s .d (.c .d .d)) (.b (.s .d (.s .d .d))))))))
theorem g74E (R : Idl.Callee) (L : Nat) : funT Tryz.prog R L Tryz.f74 g74A [.v, .i .i64, .i .i64, .v] = g74 R L := by kernel_rfl
/-- slices.partialInsertionSortCmpFunc[incipit/index.Hit] -/
def g75 (R : Idl.Callee) (L : Nat) : JT [.v, .i .i64, .i .i64, .v] := fun (data1 : Value) (a1 : Int) (b1 : Int) (cmp1 : Value) (s1 : Heap) =>
  arI .add .i64 a1 1 fun t1 =>
  loopN (botJ [.v, .i .i64, .i .i64, .v, .i .i64, .i .i64]) (fun self1 => fun (data2 : Value) (a2 : Int) (b2 : Int) (cmp2 : Value) (i1 : Int) (j1 : Int) (s2 : Heap) =>
  cndT (cmpI .lss j1 5) (joinK (fun (data3 : Value) (a3 : Int) (b3 : Int) (cmp3 : Value) (i2 : Int) (j2 : Int) (s3 : Heap) =>
  arI .add .i64 j2 1 fun t2 =>
  self1 data3 a3 b3 cmp3 i2 t2 s3) fun J1 =>
  loopN (botJ [.v, .i .i64, .i .i64, .v, .i .i64, .i .i64]) (fun self2 => fun (data4 : Value) (a4 : Int) (b4 : Int) (cmp4 : Value) (i3 : Int) (j3 : Int) (s4 : Heap) =>
  joinK (fun (data5 : Value) (a5 : Int) (b5 : Int) (cmp5 : Value) (i4 : Int) (j4 : Int) (t3 : Bool) (s5 : Heap) =>
  cndT t3 (arI .add .i64 i4 1 fun t4 =>
  self2 data5 a5 b5 cmp5 t4 j4 s5) (cndT (cmpI .eql i4 b5) (some (.bool true, s5)) (arI .sub .i64 b5 a5 fun t5 =>
  cndT (cmpI .lss t5 50) (some (.bool false, s5)) (heH 18 s5 fun base1 s6 =>
  arI .sub .i64 i4 1 fun t6 =>
  idxS 2 data5 t6 fun p1 =>
  ldG 2 p1 s6 fun t7 =>
  idxS 2 data5 i4 fun p2 =>
  ldG 2 p2 s6 fun t8 =>
  idxS 2 data5 i4 fun p3 =>
  stN 2 p3 t7 s6 fun s7 =>
  arI .sub .i64 i4 1 fun t9 =>
  idxS 2 data5 t9 fun p4 =>
  stN 2 p4 t8 s7 fun s8 =>
  joinK (fun (data6 : Value) (a6 : Int) (b6 : Int) (cmp6 : Value) (i5 : Int) (j5 : Int) (s9 : Heap) =>
  arI .sub .i64 b6 i5 fun t10 =>
  cndT (cmpI .geq t10 2) (arI .add .i64 i5 1 fun t11 =>
  loopN (botJ [.v, .i .i64, .i .i64, .v, .i .i64, .i .i64, .i .i64]) (fun self3 => fun (data7 : Value) (a7 : Int) (b7 : Int) (cmp7 : Value) (i6 : Int) (j6 : Int) (j7 : Int) (s10 : Heap) =>
  cndT (cmpI .lss j7 b7) (heH 13 s10 fun base2 s11 =>
  idxS 2 data7 j7 fun p5 =>
  ldG 2 p5 s11 fun t12 =>
  arI .sub .i64 j7 1 fun t13 =>
  idxS 2 data7 t13 fun p6 =>
  ldG 2 p6 s11 fun t14 =>
  fnOf cmp7 [.agg t12.toArray, .agg t14.toArray] fun tg1 =>
  (callJ [.i .i64] R tg1 s11 fun (r1 : Int) (s12 : Heap) =>
  cndT (!(cmpI .lss r1 0)) (J1 data7 a7 b7 cmp7 i6 j6 s12) (heH 18 s12 fun base3 s13 =>
  arI .sub .i64 j7 1 fun t15 =>
  idxS 2 data7 t15 fun p7 =>
  ldG 2 p7 s13 fun t16 =>
  idxS 2 data7 j7 fun p8 =>
  ldG 2 p8 s13 fun t17 =>
  idxS 2 data7 j7 fun p9 =>
  stN 2 p9 t16 s13 fun s14 =>
  arI .sub .i64 j7 1 fun t18 =>
  idxS 2 data7 t18 fun p10 =>
  stN 2 p10 t17 s14 fun s15 =>
  arI .add .i64 j7 1 fun t19 =>
  self3 data7 a7 b7 cmp7 i6 j6 t19 s15))) (J1 data7 a7 b7 cmp7 i6 j6 s10)) L data6 a6 b6 cmp6 i5 j5 t11 s9) (J1 data6 a6 b6 cmp6 i5 j5 s9)) fun J3 =>
  arI .sub .i64 i4 a5 fun t20 =>
  cndT (cmpI .geq t20 2) (arI .sub .i64 i4 1 fun t21 =>
  loopN (botJ [.v, .i .i64, .i .i64, .v, .i .i64, .i .i64, .i .i64]) (fun self4 => fun (data8 : Value) (a8 : Int) (b8 : Int) (cmp8 : Value) (i7 : Int) (j8 : Int) (j9 : Int) (s16 : Heap) =>
  cndT (cmpI .geq j9 1) (heH 13 s16 fun base4 s17 =>
  idxS 2 data8 j9 fun p11 =>
  ldG 2 p11 s17 fun t22 =>
  arI .sub .i64 j9 1 fun t23 =>
  idxS 2 data8 t23 fun p12 =>
  ldG 2 p12 s17 fun t24 =>
  fnOf cmp8 [.agg t22.toArray, .agg t24.toArray] fun tg2 =>
  (callJ [.i .i64] R tg2 s17 fun (r2 : Int) (s18 : Heap) =>
  cndT (!(cmpI .lss r2 0)) (J3 data8 a8 b8 cmp8 i7 j8 s18) (heH 18 s18 fun base5 s19 =>
  arI .sub .i64 j9 1 fun t25 =>
  idxS 2 data8 t25 fun p13 =>
  ldG 2 p13 s19 fun t26 =>
  idxS 2 data8 j9 fun p14 =>
  ldG 2 p14 s19 fun t27 =>
  idxS 2 data8 j9 fun p15 =>
  stN 2 p15 t26 s19 fun s20 =>
  arI .sub .i64 j9 1 fun t28 =>
  idxS 2 data8 t28 fun p16 =>
  stN 2 p16 t27 s20 fun s21 =>
  arI .sub .i64 j9 1 fun t29 =>
  self4 data8 a8 b8 cmp8 i7 j8 t29 s21))) (J3 data8 a8 b8 cmp8 i7 j8 s16)) L data5 a5 b5 cmp5 i4 j4 t21 s8) (J3 data5 a5 b5 cmp5 i4 j4 s8))))) fun J2 =>
  heH 18 s4 fun base6 s22 =>
  cndT (cmpI .lss i3 b4) (idxS 2 data4 i3 fun p17 =>
  ldG 2 p17 s22 fun t30 =>
  arI .sub .i64 i3 1 fun t31 =>
  idxS 2 data4 t31 fun p18 =>
  ldG 2 p18 s22 fun t32 =>
  fnOf cmp4 [.agg t30.toArray, .agg t32.toArray] fun tg3 =>
  (callJ [.i .i64] R tg3 s22 fun (r3 : Int) (s23 : Heap) =>
  J2 data4 a4 b4 cmp4 i3 j3 (!(cmpI .lss r3 0)) s23)) (J2 data4 a4 b4 cmp4 i3 j3 false s22)) L data2 a2 b2 cmp2 i1 j1 s2) (some (.bool false, s2))) L data1 a1 b1 cmp1 t1 0 s1
def g75A : Ann := (.s .d (.s .d (.s (.s .d (.b (.l [(0, .v), (1, .i .i64), (2, .i .i64), (3, .v), (9, .i .i64), (10, .i .i64)] (.s (.s .d (.c .d .d)) (.j [(0, .v), (1, .i .i64), (2, .i .i64), (3, .v), (9, .i .i64), (10, .i .i64)] (.b (.s (.b (.l [(0, .v), (1, .i .i64), (2, .i .i64), (3, .v), (9, .i .i64), (10, .i .i64)] (.s (.j [(0, .v), (1, .i .i64), (2, .i .i64), (3, .v), (9, .i .i64), (10, .i .i64), (36, .b)] .d (.c .d .d)) (.b .d)))) (.s (.s .d (.c (.s .d .d) .d)) (.s (.s .d (.c (.s .d .d) .d)) (.s .d (.j [(0, .v), (1, .i .i64), (2, .i .i64), (3, .v), (9, .i .i64), (10, .i .i64)] (.s .d (.c (.s .d (.b (.l [(0, .v), (1, .i .i64), (2, .i .i64), (3, .v), (9, .i .i64), (10, .i .i64), (11, .i .i64)] (.s (.s .d (.c .d .d)) (.s (.b (.s (.s .d (.c .d .d)) .d)) .d))))) .d)) (.s .d (.c (.s .d (.b (.l [(0, .v), (1, .i .i64), (2, .i .i64), (3, .v), (9, .i .i64), (10, .i .i64), (12, .i .i64)] (.s (.s .d (.c .d .d)) (.s (.b (.s (.s .d (.c .d .d)) .d)) .d))))) .d)))))))) .d))))) (.s .d .d))))
theorem g75E (R : Idl.Callee) (L : Nat) : funT Tryz.prog R L Tryz.f75 g75A [.v, .i .i64, .i .i64, .v] = g75 R L := by kernel_rfl
/-- slices.partitionEqualCmpFunc[incipit/index.Hit] -/
def g76 (R : Idl.Callee) (L : Nat) : JT [.v, .i .i64, .i .i64, .i .i64, .v] := fun (data1 : Value) (a1 : Int) (b1 : Int) (pivot1 : Int) (cmp1 : Value) (s1 : Heap) =>
  heH 16 s1 fun base1 s2 =>
  idxS 2 data1 pivot1 fun p1 =>
  ldG 2 p1 s2 fun t1 =>
  idxS 2 data1 a1 fun p2 =>
  ldG 2 p2 s2 fun t2 =>
  idxS 2 data1 a1 fun p3 =>
  stN 2 p3 t1 s2 fun s3 =>
  idxS 2 data1 pivot1 fun p4 =>
  stN 2 p4 t2 s3 fun s4 =>
  arI .add .i64 a1 1 fun t3 =>
  arI .sub .i64 b1 1 fun t4 =>
  loopN (botJ [.v, .i .i64, .v, .i .i64, .i .i64]) (fun self1 => fun (data2 : Value) (a2 : Int) (cmp2 : Value) (i1 : Int) (j1 : Int) (s5 : Heap) =>
  loopN (botJ [.v, .i .i64, .v, .i .i64, .i .i64]) (fun self2 => fun (data3 : Value) (a3 : Int) (cmp3 : Value) (i2 : Int) (j2 : Int) (s6 : Heap) =>
  joinK (fun (data4 : Value) (a4 : Int) (cmp4 : Value) (i3 : Int) (j3 : Int) (t5 : Bool) (s7 : Heap) =>
  cndT t5 (arI .add .i64 i3 1 fun t6 =>
  self2 data4 a4 cmp4 t6 j3 s7) (loopN (botJ [.v, .i .i64, .v, .i .i64, .i .i64]) (fun self3 => fun (data5 : Value) (a5 : Int) (cmp5 : Value) (i4 : Int) (j4 : Int) (s8 : Heap) =>
  joinK (fun (data6 : Value) (a6 : Int) (cmp6 : Value) (i5 : Int) (j5 : Int) (t7 : Bool) (s9 : Heap) =>
  cndT t7 (arI .sub .i64 j5 1 fun t8 =>
  self3 data6 a6 cmp6 i5 t8 s9) (cndT (cmpI .gtr i5 j5) (some (.int .i64 i5, s9)) (heH 16 s9 fun base2 s10 =>
  idxS 2 data6 j5 fun p5 =>
  ldG 2 p5 s10 fun t9 =>
  idxS 2 data6 i5 fun p6 =>
  ldG 2 p6 s10 fun t10 =>
  idxS 2 data6 i5 fun p7 =>
  stN 2 p7 t9 s10 fun s11 =>
  idxS 2 data6 j5 fun p8 =>
  stN 2 p8 t10 s11 fun s12 =>
  arI .add .i64 i5 1 fun t11 =>
  arI .sub .i64 j5 1 fun t12 =>
  self1 data6 a6 cmp6 t11 t12 s12))) fun J2 =>
  heH 16 s8 fun base3 s13 =>
  cndT (cmpI .leq i4 j4) (idxS 2 data5 a5 fun p9 =>
  ldG 2 p9 s13 fun t13 =>
  idxS 2 data5 j4 fun p10 =>
  ldG 2 p10 s13 fun t14 =>
  fnOf cmp5 [.agg t13.toArray, .agg t14.toArray] fun tg1 =>
  (callJ [.i .i64] R tg1 s13 fun (r1 : Int) (s14 : Heap) =>
  J2 data5 a5 cmp5 i4 j4 (cmpI .lss r1 0) s14)) (J2 data5 a5 cmp5 i4 j4 false s13)) L data4 a4 cmp4 i3 j3 s7)) fun J1 =>
  heH 17 s6 fun base4 s15 =>
  cndT (cmpI .leq i2 j2) (idxS 2 data3 a3 fun p11 =>
  ldG 2 p11 s15 fun t15 =>
  idxS 2 data3 i2 fun p12 =>
  ldG 2 p12 s15 fun t16 =>
  fnOf cmp3 [.agg t15.toArray, .agg t16.toArray] fun tg2 =>
  (callJ [.i .i64] R tg2 s15 fun (r2 : Int) (s16 : Heap) =>
  J1 data3 a3 cmp3 i2 j2 (!(cmpI .lss r2 0)) s16)) (J1 data3 a3 cmp3 i2 j2 false s15)) L data2 a2 cmp2 i1 j1 s5) L data1 a1 cmp1 t3 t4 s4
def g76A : Ann := (.s .d (.s .d (.s .d (.s (.b (.l [(0, .v), (1, .i .i64), (4, .v), (11, .i .i64), (12, .i .i64)] (.b (.s (.b (.l [(0, .v), (1, .i .i64), (4, .v), (11, .i .i64), (12, .i .i64)] (.s (.j [(0, .v), (1, .i .i64), (4, .v), (11, .i .i64), (12, .i .i64), (47, .b)] .d (.c .d .d)) (.b .d)))) (.s (.b (.l [(0, .v), (1, .i .i64), (4, .v), (11, .i .i64), (12, .i .i64)] (.s (.j [(0, .v), (1, .i .i64), (4, .v), (11, .i .i64), (12, .i .i64), (65, .b)] .d (.c .d .d)) (.b .d)))) (.s (.s .d (.c .d .d)) (.s .d (.s .d .d)))))))) (.s .d .d)))))
theorem g76E (R : Idl.Callee) (L : Nat) : funT Tryz.prog R L Tryz.f76 g76A [.v, .i .i64, .i .i64, .i .i64, .v] = g76 R L := by kernel_rfl
end
end Go.Proofs.YtpddlhbhpncfaaaGreat
