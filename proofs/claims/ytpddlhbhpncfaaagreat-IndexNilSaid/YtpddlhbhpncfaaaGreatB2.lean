/- Typed forms of functions, printed by a program of our own. -/
import Derived.Test.YtpddlhbhpncfaaaGreatProg
import Derived.KernelRfl
import Derived.Test.YtpddlhbhpncfaaaGreatIa5
namespace Go.Proofs.YtpddlhbhpncfaaaGreat
open Go Go.Idl
set_option linter.unusedVariables false
noncomputable section
/-- (*incipit/alpha.Table).Code -/
def g33 (R : Idl.Callee) (L : Nat) : JT [.v, .i .i64] := fun (t1 : Value) (symbol1 : Int) (s1 : Heap) =>
  nilT .p t1 (.pointer none) fun c1 =>
  cndT (flipB true c1) (some ((.tuple #[.int .i64 0, .int .i64 11]), s1)) (nchk t1 fun p1 =>
  fldP p1 0 fun p2 =>
  ldV p2 s1 fun t2 =>
  (callJ [.i .i64, .b] R (.fn 63 #[t2, .int .i64 symbol1]) s1 fun (r1 : Int) (r2 : Bool) (s2 : Heap) =>
  cndT (!r2) (some ((.tuple #[.int .i64 0, .int .i64 7]), s2)) (some ((.tuple #[.int .i64 r1, .int .i64 0]), s2))))
def g33A : Ann := (.s .d (.s (.s .d (.c (.s .d .d) .d)) (.s .d (.s (.s .d (.c (.s .d .d) .d)) (.s .d .d)))))
theorem g33E (R : Idl.Callee) (L : Nat) : funT Tryz.prog R L Tryz.f33 g33A [.v, .i .i64] = g33 R L := by kernel_rfl
/-- (*incipit/search.Index).lead -/
def g34 (R : Idl.Callee) (L : Nat) : JT [.v, .i .i64, .i .i64] := fun (x1 : Value) (c1 : Int) (row1 : Int) (s1 : Heap) =>
  nchk x1 fun p1 =>
  fldP p1 1 fun p2 =>
  ldV p2 s1 fun t1 =>
  (callJ [.i .i64, .i .i64] R (.fn 64 #[t1, .int .i64 c1, .int .i64 row1]) s1 fun (r1 : Int) (r2 : Int) (s2 : Heap) =>
  nchk x1 fun p3 =>
  fldP p3 0 fun p4 =>
  ldV p4 s2 fun t2 =>
  (callJ [.i .i64, .i .i64] R (.fn 65 #[t2, .int .i64 c1]) s2 fun (r3 : Int) (r4 : Int) (s3 : Heap) =>
  arI .add .i64 r3 r1 fun t3 =>
  some (.int .i64 t3, s3)))
def g34A : Ann := (.s .d (.s .d (.s .d (.s .d .d))))
theorem g34E (R : Idl.Callee) (L : Nat) : funT Tryz.prog R L Tryz.f34 g34A [.v, .i .i64, .i .i64] = g34 R L := by kernel_rfl
/-- (*incipit/sample.Samples).check -/
def g35 (R : Idl.Callee) (L : Nat) : JT [.v, .v, .i .i64, .i .i64] := fun (s1 : Value) (x1 : Value) (fromq1 : Int) (to1 : Int) (s2 : Heap) =>
  joinK (fun (s3 : Value) (fromq2 : Int) (to2 : Int) (t1 : Bool) (s4 : Heap) =>
  cndT t1 (some (.int .i64 11, s4)) (joinK (fun (t2 : Bool) (s5 : Heap) =>
  cndT t2 (some (.int .i64 10, s5)) (some (.int .i64 0, s5))) fun J2 =>
  cndT (cmpI .lss fromq2 0) (J2 true s4) ((callJ [.i .i64] R (.fn 44 #[s3]) s4 fun (r1 : Int) (s6 : Heap) =>
  cndT (cmpI .gtr to2 r1) (J2 true s6) (J2 (cmpI .gtr fromq2 to2) s6))))) fun J1 =>
  nilT .p s1 (.pointer none) fun c1 =>
  cndT (flipB true c1) (J1 s1 fromq1 to1 true s2) (nilT .p x1 (.pointer none) fun c2 =>
  cndT (flipB true c2) (J1 s1 fromq1 to1 true s2) ((callJ [.i .i64] R (.fn 31 #[x1]) s2 fun (r2 : Int) (s7 : Heap) =>
  (callJ [.i .i64] R (.fn 44 #[s1]) s7 fun (r3 : Int) (s8 : Heap) =>
  J1 s1 fromq1 to1 (cmpI .neq r2 r3) s8))))
def g35A : Ann := (.s .d (.s (.b (.j [(0, .v), (2, .i .i64), (3, .i .i64), (9, .b)] .d (.c (.s .d .d) (.j [(23, .b)] .d (.c (.s .d .d) .d))))) (.s .d .d)))
theorem g35E (R : Idl.Callee) (L : Nat) : funT Tryz.prog R L Tryz.f35 g35A [.v, .v, .i .i64, .i .i64] = g35 R L := by kernel_rfl
/-- (*incipit/sample.Samples).Place -/
def g36 (R : Idl.Callee) (L : Nat) : JT [.v, .v, .i .i64] := fun (s1 : Value) (x1 : Value) (atq1 : Int) (s2 : Heap) =>
  (callJ [.i .i64] R (.fn 35 #[s1, x1, .int .i64 0, .int .i64 0]) s2 fun (r1 : Int) (s3 : Heap) =>
  cndT (cmpI .neq r1 0) (some ((.tuple #[.int .i64 0, .int .i64 r1]), s3)) (joinK (fun (s4 : Value) (x2 : Value) (atq2 : Int) (t1 : Bool) (s5 : Heap) =>
  cndT t1 (some ((.tuple #[.int .i64 0, .int .i64 10]), s5)) (joinK (fun (s6 : Heap) =>
  some ((.tuple #[.int .i64 0, .int .i64 5]), s6)) fun J2 =>
  nchk s4 fun p1 =>
  fldP p1 0 fun p2 =>
  ldI .i64 p2 s5 fun t2 =>
  loopN (botJ [.v, .v, .i .i64, .i .i64, .i .i64]) (fun self1 => fun (s7 : Value) (x3 : Value) (atq3 : Int) (t3 : Int) (t4 : Int) (s8 : Heap) =>
  cndT (cmpI .lss t4 t3) ((callJ [.i .i64, .b] R (.fn 66 #[s7, .int .i64 atq3]) s8 fun (r2 : Int) (r3 : Bool) (s9 : Heap) =>
  cndT (!r3) ((callJ [.i .i64, .i .i64, .i .i64] R (.fn 48 #[x3, .int .i64 atq3]) s9 fun (r4 : Int) (r5 : Int) (r6 : Int) (s10 : Heap) =>
  arI .add .i64 t4 1 fun t5 =>
  self1 s7 x3 r5 t3 t5 s10)) (arI .add .i64 r2 t4 fun t6 =>
  (callJ [.i .i64] R (.fn 44 #[s7]) s9 fun (r7 : Int) (s11 : Heap) =>
  cndT (cmpI .geq t6 r7) (J2 s11) (arI .add .i64 r2 t4 fun t7 =>
  some ((.tuple #[.int .i64 t7, .int .i64 0]), s11)))))) (J2 s8)) L s4 x2 atq2 t2 0 s5)) fun J1 =>
  cndT (cmpI .lss atq1 0) (J1 s1 x1 atq1 true s3) ((callJ [.i .i64] R (.fn 44 #[s1]) s3 fun (r8 : Int) (s12 : Heap) =>
  J1 s1 x1 atq1 (cmpI .geq atq1 r8) s12))))
def g36A : Ann := (.s .d (.s (.s .d (.s .d (.c (.s .d .d) .d))) (.s (.j [(0, .v), (1, .v), (2, .i .i64), (25, .b)] .d (.c (.s .d .d) .d)) (.s .d (.j [] (.s .d (.b (.l [(0, .v), (1, .v), (2, .i .i64), (29, .i .i64), (30, .i .i64)] (.s .d (.s (.c .d .d) (.s (.b (.s .d (.s .d (.s (.s .d (.c (.s .d .d) .d)) (.s (.s .d (.c .d .d)) (.s .d .d)))))) .d)))))) (.s .d .d))))))
theorem g36E (R : Idl.Callee) (L : Nat) : funT Tryz.prog R L Tryz.f36 g36A [.v, .v, .i .i64] = g36 R L := by kernel_rfl
/-- slices.Sort[[]int,int] -/
def g37 (R : Idl.Callee) (L : Nat) : JT [.v] := fun (x1 : Value) (s1 : Heap) =>
  lenV x1 fun n1 =>
  bdI (wr .u64 n1) fun t1 =>
  (callJ [.i .i64] R (.fn 40 #[.int .u64 t1]) s1 fun (r1 : Int) (s2 : Heap) =>
  (callJ [] R (.fn 67 #[x1, .int .i64 0, .int .i64 n1, .int .i64 r1]) s2 fun (s3 : Heap) =>
  some ((.tuple #[]), s3)))
def g37A : Ann := (.s .d .d)
theorem g37E (R : Idl.Callee) (L : Nat) : funT Tryz.prog R L Tryz.f37 g37A [.v] = g37 R L := by kernel_rfl
/-- (*incipit/docs.List).Find -/
def g38 (R : Idl.Callee) (L : Nat) : JT [.v, .i .i64] := fun (l1 : Value) (place1 : Int) (s1 : Heap) =>
  nilT .p l1 (.pointer none) fun c1 =>
  cndT (flipB true c1) (some ((.tuple #[.int .i64 0, .int .i64 0, .int .i64 11]), s1)) (joinK (fun (l2 : Value) (place2 : Int) (t1 : Bool) (s2 : Heap) =>
  cndT t1 (some ((.tuple #[.int .i64 0, .int .i64 0, .int .i64 10]), s2)) (nchk l2 fun p1 =>
  fldP p1 0 fun p2 =>
  ldV p2 s2 fun t2 =>
  (callJ [.i .i64] R (.fn 68 #[t2]) s2 fun (r1 : Int) (s3 : Heap) =>
  cndT (cmpI .eql place2 r1) (some ((.tuple #[.int .i64 0, .int .i64 0, .int .i64 7]), s3)) (nchk l2 fun p3 =>
  fldP p3 0 fun p4 =>
  ldV p4 s3 fun t3 =>
  (callJ [.i .i64] R (.fn 69 #[t3, .int .i64 place2]) s3 fun (r2 : Int) (s4 : Heap) =>
  nchk l2 fun p5 =>
  fldP p5 0 fun p6 =>
  ldV p6 s4 fun t4 =>
  idxS 1 t4 r2 fun p7 =>
  ldI .i64 p7 s4 fun t5 =>
  arI .sub .i64 place2 t5 fun t6 =>
  nchk l2 fun p8 =>
  fldP p8 1 fun p9 =>
  ldV p9 s4 fun t7 =>
  idxS 1 t7 r2 fun p10 =>
  ldI .i64 p10 s4 fun t8 =>
  cndT (cmpI .eql t6 t8) (some ((.tuple #[.int .i64 0, .int .i64 0, .int .i64 7]), s4)) (some ((.tuple #[.int .i64 r2, .int .i64 t6, .int .i64 0]), s4))))))) fun J1 =>
  cndT (cmpI .lss place1 0) (J1 l1 place1 true s1) (nchk l1 fun p11 =>
  fldP p11 0 fun p12 =>
  ldV p12 s1 fun t9 =>
  (callJ [.i .i64] R (.fn 68 #[t9]) s1 fun (r3 : Int) (s5 : Heap) =>
  J1 l1 place1 (cmpI .gtr place1 r3) s5)))
def g38A : Ann := (.s .d (.s (.b (.s .d (.c (.s .d .d) (.j [(0, .v), (1, .i .i64), (12, .b)] .d (.c (.s .d .d) (.s .d (.c (.s .d .d) .d))))))) (.s .d (.s .d (.s (.s .d (.c (.s .d .d) .d)) (.s .d .d))))))
theorem g38E (R : Idl.Callee) (L : Nat) : funT Tryz.prog R L Tryz.f38 g38A [.v, .i .i64] = g38 R L := by kernel_rfl
/-- slices.pdqsortCmpFunc[incipit/index.Hit] -/
def g39 (R : Idl.Callee) (L : Nat) : JT [.v, .i .i64, .i .i64, .i .i64, .v] := fun (data1 : Value) (a1 : Int) (b1 : Int) (limit1 : Int) (cmp1 : Value) (s1 : Heap) =>
  loopN (botJ [.v, .i .i64, .i .i64, .i .i64, .v, .b, .b]) (fun self1 => fun (data2 : Value) (a2 : Int) (b2 : Int) (limit2 : Int) (cmp2 : Value) (wasBalanced1 : Bool) (wasPartitioned1 : Bool) (s2 : Heap) =>
  arI .sub .i64 b2 a2 fun t1 =>
  cndT (cmpI .leq t1 12) ((callJ [] R (.fn 70 #[data2, .int .i64 a2, .int .i64 b2, cmp2]) s2 fun (s3 : Heap) =>
  some ((.tuple #[]), s3))) (cndT (cmpI .eql limit2 0) ((callJ [] R (.fn 71 #[data2, .int .i64 a2, .int .i64 b2, cmp2]) s2 fun (s4 : Heap) =>
  some ((.tuple #[]), s4))) (joinK (fun (data3 : Value) (a3 : Int) (b3 : Int) (limit3 : Int) (cmp3 : Value) (wasBalanced2 : Bool) (wasPartitioned2 : Bool) (length1 : Int) (s5 : Heap) =>
  (callJ [.i .i64, .i .i64] R (.fn 73 #[data3, .int .i64 a3, .int .i64 b3, cmp3]) s5 fun (r1 : Int) (r2 : Int) (s6 : Heap) =>
  joinK (fun (data4 : Value) (a4 : Int) (b4 : Int) (limit4 : Int) (cmp4 : Value) (wasBalanced3 : Bool) (wasPartitioned3 : Bool) (length2 : Int) (pivot1 : Int) (hint1 : Int) (s7 : Heap) =>
  joinK (fun (data5 : Value) (a5 : Int) (b5 : Int) (limit5 : Int) (cmp5 : Value) (wasBalanced4 : Bool) (wasPartitioned4 : Bool) (length3 : Int) (pivot2 : Int) (s8 : Heap) =>
  joinK (fun (data6 : Value) (a6 : Int) (b6 : Int) (limit6 : Int) (cmp6 : Value) (wasBalanced5 : Bool) (wasPartitioned5 : Bool) (length4 : Int) (pivot3 : Int) (t2 : Bool) (s9 : Heap) =>
  cndT t2 ((callJ [.i .i64] R (.fn 76 #[data6, .int .i64 a6, .int .i64 b6, .int .i64 pivot3, cmp6]) s9 fun (r3 : Int) (s10 : Heap) =>
  self1 data6 r3 b6 limit6 cmp6 wasBalanced5 wasPartitioned5 s10)) ((callJ [.i .i64, .b] R (.fn 77 #[data6, .int .i64 a6, .int .i64 b6, .int .i64 pivot3, cmp6]) s9 fun (r4 : Int) (r5 : Bool) (s11 : Heap) =>
  arI .sub .i64 r4 a6 fun t3 =>
  arI .sub .i64 b6 r4 fun t4 =>
  arI .quo .i64 length4 8 fun t5 =>
  cndT (cmpI .lss t3 t4) ((callJ [] R (.fn 39 #[data6, .int .i64 a6, .int .i64 r4, .int .i64 limit6, cmp6]) s11 fun (s12 : Heap) =>
  arI .add .i64 r4 1 fun t6 =>
  self1 data6 t6 b6 limit6 cmp6 (cmpI .geq t3 t5) r5 s12)) (arI .add .i64 r4 1 fun t7 =>
  (callJ [] R (.fn 39 #[data6, .int .i64 t7, .int .i64 b6, .int .i64 limit6, cmp6]) s11 fun (s13 : Heap) =>
  self1 data6 a6 r4 limit6 cmp6 (cmpI .geq t4 t5) r5 s13))))) fun J4 =>
  heH 17 s8 fun base1 s14 =>
  cndT (cmpI .gtr a5 0) (arI .sub .i64 a5 1 fun t8 =>
  idxS 2 data5 t8 fun p1 =>
  ldG 2 p1 s14 fun t9 =>
  idxS 2 data5 pivot2 fun p2 =>
  ldG 2 p2 s14 fun t10 =>
  fnOf cmp5 [.agg t9.toArray, .agg t10.toArray] fun tg1 =>
  (callJ [.i .i64] R tg1 s14 fun (r6 : Int) (s15 : Heap) =>
  J4 data5 a5 b5 limit5 cmp5 wasBalanced4 wasPartitioned4 length3 pivot2 (!(cmpI .lss r6 0)) s15)) (J4 data5 a5 b5 limit5 cmp5 wasBalanced4 wasPartitioned4 length3 pivot2 false s14)) fun J3 =>
  joinK (fun (data7 : Value) (a7 : Int) (b7 : Int) (limit7 : Int) (cmp7 : Value) (wasBalanced6 : Bool) (wasPartitioned6 : Bool) (length5 : Int) (pivot4 : Int) (t11 : Bool) (s16 : Heap) =>
  cndT t11 ((callJ [.b] R (.fn 75 #[data7, .int .i64 a7, .int .i64 b7, cmp7]) s16 fun (r7 : Bool) (s17 : Heap) =>
  cndT r7 (some ((.tuple #[]), s17)) (J3 data7 a7 b7 limit7 cmp7 wasBalanced6 wasPartitioned6 length5 pivot4 s17))) (J3 data7 a7 b7 limit7 cmp7 wasBalanced6 wasPartitioned6 length5 pivot4 s16)) fun J5 =>
  cndT wasBalanced3 (cndT wasPartitioned3 (J5 data4 a4 b4 limit4 cmp4 wasBalanced3 wasPartitioned3 length2 pivot1 (cmpI .eql hint1 1) s7) (J5 data4 a4 b4 limit4 cmp4 wasBalanced3 wasPartitioned3 length2 pivot1 false s7)) (J5 data4 a4 b4 limit4 cmp4 wasBalanced3 wasPartitioned3 length2 pivot1 false s7)) fun J2 =>
  cndT (cmpI .eql r2 2) ((callJ [] R (.fn 74 #[data3, .int .i64 a3, .int .i64 b3, cmp3]) s6 fun (s18 : Heap) =>
  arI .sub .i64 b3 1 fun t12 =>
  arI .sub .i64 r1 a3 fun t13 =>
  arI .sub .i64 t12 t13 fun t14 =>
  J2 data3 a3 b3 limit3 cmp3 wasBalanced2 wasPartitioned2 length1 t14 1 s18)) (J2 data3 a3 b3 limit3 cmp3 wasBalanced2 wasPartitioned2 length1 r1 r2 s6))) fun J1 =>
  cndT (!wasBalanced1) ((callJ [] R (.fn 72 #[data2, .int .i64 a2, .int .i64 b2, cmp2]) s2 fun (s19 : Heap) =>
  arI .sub .i64 limit2 1 fun t15 =>
  J1 data2 a2 b2 t15 cmp2 wasBalanced1 wasPartitioned1 t1 s19)) (J1 data2 a2 b2 limit2 cmp2 wasBalanced1 wasPartitioned1 t1 s2)))) L data1 a1 b1 limit1 cmp1 true true s1
def g39A : Ann := (.s .d (.s .d (.b (.l [(0, .v), (1, .i .i64), (2, .i .i64), (3, .i .i64), (4, .v), (10, .b), (11, .b)] (.b (.s .d (.s (.s .d (.c (.s .d .d) .d)) (.s (.s .d (.c (.s .d .d) .d)) (.j [(0, .v), (1, .i .i64), (2, .i .i64), (3, .i .i64), (4, .v), (10, .b), (11, .b), (12, .i .i64)] (.s .d (.c (.s .d .d) .d)) (.s .d (.j [(0, .v), (1, .i .i64), (2, .i .i64), (3, .i .i64), (4, .v), (10, .b), (11, .b), (12, .i .i64), (13, .i .i64), (14, .i .i64)] (.s .d (.c (.s .d (.s .d .d)) .d)) (.j [(0, .v), (1, .i .i64), (2, .i .i64), (3, .i .i64), (4, .v), (10, .b), (11, .b), (12, .i .i64), (13, .i .i64)] (.j [(0, .v), (1, .i .i64), (2, .i .i64), (3, .i .i64), (4, .v), (10, .b), (11, .b), (12, .i .i64), (13, .i .i64), (75, .b)] .d (.c (.s .d (.c .d .d)) .d)) (.s (.j [(0, .v), (1, .i .i64), (2, .i .i64), (3, .i .i64), (4, .v), (10, .b), (11, .b), (12, .i .i64), (13, .i .i64), (97, .b)] .d (.c (.s .d (.s .d .d)) .d)) (.s .d (.s .d (.s .d (.s .d (.s .d (.c (.s .d (.s .d .d)) (.s .d (.s .d .d)))))))))))))))))))))
theorem g39E (R : Idl.Callee) (L : Nat) : funT Tryz.prog R L Tryz.f39 g39A [.v, .i .i64, .i .i64, .i .i64, .v] = g39 R L := by kernel_rfl
/-- math/bits.Len -/
def g40 (R : Idl.Callee) (L : Nat) : JT [.i .u64] := fun (x1 : Int) (s1 : Heap) =>
  (callJ [.i .i64] R (.fn 79 #[.int .u64 x1]) s1 fun (r1 : Int) (s2 : Heap) =>
  some (.int .i64 r1, s2))
def g40A : Ann := (.s .d (.s (.c .d .d) (.s .d .d)))
theorem g40E (R : Idl.Callee) (L : Nat) : funT Tryz.prog R L Tryz.f40 g40A [.i .u64] = g40 R L := by kernel_rfl
/-- cmp.Or[int] -/
def g41 (R : Idl.Callee) (L : Nat) : JT [.v] := fun (vals1 : Value) (s1 : Heap) =>
  lenV vals1 fun n1 =>
  loopN (botJ [.i .i64, .v, .i .i64, .i .i64]) (fun self1 => fun (zero1 : Int) (t1 : Value) (t2 : Int) (t3 : Int) (s2 : Heap) =>
  cndT (cmpI .lss t3 t2) (idxS 1 t1 t3 fun p1 =>
  ldI .i64 p1 s2 fun t4 =>
  cndT (cmpI .neq t4 zero1) (some (.int .i64 t4, s2)) (arI .add .i64 t3 1 fun t5 =>
  self1 zero1 t1 t2 t5 s2)) (some (.int .i64 zero1, s2))) L 0 vals1 n1 0 s1
def g41A : Ann := (.s .d (.s .d (.s (.s .d (.b (.l [(3, .i .i64), (6, .v), (7, .i .i64), (8, .i .i64)] (.s .d (.s (.c .d .d) (.s (.b (.s .d (.s .d (.c (.s .d .d) .d)))) .d)))))) (.s .d .d))))
theorem g41E (R : Idl.Callee) (L : Nat) : funT Tryz.prog R L Tryz.f41 g41A [.v] = g41 R L := by kernel_rfl
/-- cmp.Compare[int] -/
def g42 (R : Idl.Callee) (L : Nat) : JT [.i .i64, .i .i64] := fun (x1 : Int) (y1 : Int) (s1 : Heap) =>
  (callJ [.b] R (.fn 80 #[.int .i64 x1]) s1 fun (r1 : Bool) (s2 : Heap) =>
  (callJ [.b] R (.fn 80 #[.int .i64 y1]) s2 fun (r2 : Bool) (s3 : Heap) =>
  cndT r1 (cndT r2 (some (.int .i64 0, s3)) (some (.int .i64 (-1), s3))) (cndT r2 (some (.int .i64 1, s3)) (cndT (cmpI .lss x1 y1) (some (.int .i64 (-1), s3)) (cndT (cmpI .gtr x1 y1) (some (.int .i64 1, s3)) (some (.int .i64 0, s3)))))))
def g42A : Ann := (.s .d (.s .d (.s .d (.s (.s .d (.c (.s (.s .d (.c (.s .d .d) .d)) (.s .d .d)) .d)) (.s (.s .d (.c (.s .d .d) .d)) (.s (.s .d (.c (.s .d .d) .d)) (.s (.s .d (.c (.s .d .d) .d)) (.s .d .d))))))))
theorem g42E (R : Idl.Callee) (L : Nat) : funT Tryz.prog R L Tryz.f42 g42A [.i .i64, .i .i64] = g42 R L := by kernel_rfl
/-- (*incipit/docs.List).check -/
def g43 (R : Idl.Callee) (L : Nat) : JT [.v, .i .i64] := fun (l1 : Value) (doc1 : Int) (s1 : Heap) =>
  nilT .p l1 (.pointer none) fun c1 =>
  cndT (flipB true c1) (some (.int .i64 11, s1)) (joinK (fun (t1 : Bool) (s2 : Heap) =>
  cndT t1 (some (.int .i64 7, s2)) (some (.int .i64 0, s2))) fun J1 =>
  cndT (cmpI .lss doc1 0) (J1 true s1) (nchk l1 fun p1 =>
  fldP p1 1 fun p2 =>
  ldV p2 s1 fun t2 =>
  lenV t2 fun n1 =>
  J1 (cmpI .geq doc1 n1) s1))
def g43A : Ann := (.s .d (.s (.b (.s .d (.c (.s .d .d) (.j [(8, .b)] .d (.c (.s .d .d) .d))))) (.s .d .d)))
theorem g43E (R : Idl.Callee) (L : Nat) : funT Tryz.prog R L Tryz.f43 g43A [.v, .i .i64] = g43 R L := by kernel_rfl
/-- (*incipit/sample.Samples).Len -/
def g44 (R : Idl.Callee) (L : Nat) : JT [.v] := fun (s1 : Value) (s2 : Heap) =>
  nilT .p s1 (.pointer none) fun c1 =>
  cndT (flipB true c1) (some (.int .i64 0, s2)) (nchk s1 fun p1 =>
  fldP p1 1 fun p2 =>
  ldV p2 s2 fun t1 =>
  (callJ [.i .i64] R (.fn 81 #[t1]) s2 fun (r1 : Int) (s3 : Heap) =>
  some (.int .i64 r1, s3)))
def g44A : Ann := (.s .d (.s (.s .d (.c (.s .d .d) .d)) (.s .d .d)))
theorem g44E (R : Idl.Callee) (L : Nat) : funT Tryz.prog R L Tryz.f44 g44A [.v] = g44 R L := by kernel_rfl
/-- (*incipit/sample.Samples).Row -/
def g45 (R : Idl.Callee) (L : Nat) : JT [.v, .i .i64] := fun (s1 : Value) (place1 : Int) (s2 : Heap) =>
  nilT .p s1 (.pointer none) fun c1 =>
  cndT (flipB true c1) (some ((.tuple #[.int .i64 0, .int .i64 11]), s2)) (joinK (fun (s3 : Value) (place2 : Int) (t1 : Bool) (s4 : Heap) =>
  cndT t1 (some ((.tuple #[.int .i64 0, .int .i64 7]), s4)) (heH 15 s4 fun base1 s5 =>
  nchk s3 fun p1 =>
  fldP p1 3 fun p2 =>
  ldV p2 s5 fun t2 =>
  nchk s3 fun p3 =>
  fldP p3 0 fun p4 =>
  ldI .i64 p4 s5 fun t3 =>
  arI .quo .i64 place2 t3 fun t4 =>
  (callJ [.i .i64, .i .i64] R (.fn 82 #[t2, .int .i64 t4]) s5 fun (r1 : Int) (r2 : Int) (s6 : Heap) =>
  some ((.tuple #[.int .i64 r1, .int .i64 r2]), s6)))) fun J1 =>
  cndT (cmpI .lss place1 0) (J1 s1 place1 true s2) ((callJ [.i .i64] R (.fn 44 #[s1]) s2 fun (r3 : Int) (s7 : Heap) =>
  cndT (cmpI .geq place1 r3) (J1 s1 place1 true s7) (nchk s1 fun p5 =>
  fldP p5 0 fun p6 =>
  ldI .i64 p6 s7 fun t5 =>
  arI .rem .i64 place1 t5 fun t6 =>
  J1 s1 place1 (cmpI .neq t6 0) s7))))
def g45A : Ann := (.s .d (.s (.b (.s .d (.c (.s .d .d) (.j [(0, .v), (1, .i .i64), (9, .b)] .d (.c (.s .d .d) .d))))) (.s .d .d)))
theorem g45E (R : Idl.Callee) (L : Nat) : funT Tryz.prog R L Tryz.f45 g45A [.v, .i .i64] = g45 R L := by kernel_rfl
/-- (*incipit/sample.Samples).Read$1 -/
def g46 (R : Idl.Callee) (L : Nat) : JT [.i .i64, .i .i64, .v, .v, .v] := fun (i1 : Int) (symbol1 : Int) (t1 : Value) (t2 : Value) (t3 : Value) (s1 : Heap) =>
  joinK (fun (i2 : Int) (symbol2 : Int) (t4 : Value) (t5 : Value) (t6 : Bool) (s2 : Heap) =>
  cndT t6 (ldV t5 s2 fun t7 =>
  ldI .i64 t4 s2 fun t8 =>
  arI .sub .i64 i2 t8 fun t9 =>
  idxS 1 t7 t9 fun p1 =>
  stN 1 p1 [(.int .i64 symbol2)] s2 fun s3 =>
  some ((.tuple #[]), s3)) (some ((.tuple #[]), s2))) fun J1 =>
  ldI .i64 t1 s1 fun t10 =>
  cndT (cmpI .geq i1 t10) (ldI .i64 t2 s1 fun t11 =>
  J1 i1 symbol1 t1 t3 (cmpI .lss i1 t11) s1) (J1 i1 symbol1 t1 t3 false s1)
def g46A : Ann := (.j [(0, .i .i64), (1, .i .i64), (2, .v), (4, .v), (14, .b)] .d (.c .d .d))
theorem g46E (R : Idl.Callee) (L : Nat) : funT Tryz.prog R L Tryz.f46 g46A [.i .i64, .i .i64, .v, .v, .v] = g46 R L := by kernel_rfl
/-- (*incipit/search.Index).First -/
def g47 (R : Idl.Callee) (L : Nat) : JT [.v, .i .i64] := fun (x1 : Value) (i1 : Int) (s1 : Heap) =>
  newO (mkRow [x1]) s1 fun id1 s2 =>
  newO (mkRow [(.int .i64 i1)]) s2 fun id2 s3 =>
  ldV (ptrTo id1) s3 fun t1 =>
  ldI .i64 (ptrTo id2) s3 fun t2 =>
  (callJ [.i .i64] R (.fn 83 #[t1, .int .i64 t2]) s3 fun (r1 : Int) (s4 : Heap) =>
  cndT (cmpI .neq r1 0) (some ((.tuple #[.int .i64 0, .int .i64 r1]), s4)) (ldV (ptrTo id1) s4 fun t3 =>
  nchk t3 fun p1 =>
  fldP p1 0 fun p2 =>
  ldV p2 s4 fun t4 =>
  (callJ [.i .i64] R (.fn 85 #[t4]) s4 fun (r2 : Int) (s5 : Heap) =>
  (callJ [.i .i64] R (.fn 84 #[.int .i64 r2, (.func (.func 86) #[] #[(ptrTo id1), (ptrTo id2)])]) s5 fun (r3 : Int) (s6 : Heap) =>
  ldV (ptrTo id1) s6 fun t5 =>
  nchk t5 fun p3 =>
  fldP p3 0 fun p4 =>
  ldV p4 s6 fun t6 =>
  (callJ [.i .i64, .i .i64] R (.fn 87 #[t6, .int .i64 r3]) s6 fun (r4 : Int) (r5 : Int) (s7 : Heap) =>
  some ((.tuple #[.int .i64 r4, .int .i64 r5]), s7))))))
def g47A : Ann := (.s .d (.s (.s .d (.s .d (.c (.s .d .d) .d))) (.s .d (.s .d .d))))
theorem g47E (R : Idl.Callee) (L : Nat) : funT Tryz.prog R L Tryz.f47 g47A [.v, .i .i64] = g47 R L := by kernel_rfl
end
end Go.Proofs.YtpddlhbhpncfaaaGreat
