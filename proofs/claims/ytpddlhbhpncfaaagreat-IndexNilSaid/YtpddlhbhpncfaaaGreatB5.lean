/- Typed forms of functions, printed by a program of our own. -/
import Derived.Test.YtpddlhbhpncfaaaGreatProg
import Derived.KernelRfl
import Derived.Test.YtpddlhbhpncfaaaGreatIa5
namespace Go.Proofs.YtpddlhbhpncfaaaGreat
open Go Go.Idl
set_option linter.unusedVariables false
noncomputable section
/-- slices.partitionCmpFunc[incipit/index.Hit] -/
def g77 (R : Idl.Callee) (L : Nat) : JT [.v, .i .i64, .i .i64, .i .i64, .v] := fun (data1 : Value) (a1 : Int) (b1 : Int) (pivot1 : Int) (cmp1 : Value) (s1 : Heap) =>
  heH 16 s1 fun base1 s2 =>
  idxS 2 data1 pivot1 fun p1 =>
  ldG 2 p1 s2 fun t1 =>
  idxS 2 data1 a1 fun p2 =>
  ldG 2 p2 s2 fun t2 =>
  idxS 2 data1 a1 fun p3 =>
  stN 2 p3 t1 s2 fun s3 =>
  idxS 2 data1 pivot1 fun p4 =>
  stN 2 p4 t2 s3 fun s4 =>
  arI .add .i64 a1 1 fun t3 =>
  arI .sub .i64 b1 1 fun t4 =>
  loopN (botJ [.v, .i .i64, .v, .i .i64, .i .i64]) (fun self1 => fun (data2 : Value) (a2 : Int) (cmp2 : Value) (i1 : Int) (j1 : Int) (s5 : Heap) =>
  joinK (fun (data3 : Value) (a3 : Int) (cmp3 : Value) (i2 : Int) (j2 : Int) (t5 : Bool) (s6 : Heap) =>
  cndT t5 (arI .add .i64 i2 1 fun t6 =>
  self1 data3 a3 cmp3 t6 j2 s6) (loopN (botJ [.v, .i .i64, .v, .i .i64, .i .i64]) (fun self2 => fun (data4 : Value) (a4 : Int) (cmp4 : Value) (i3 : Int) (j3 : Int) (s7 : Heap) =>
  joinK (fun (data5 : Value) (a5 : Int) (cmp5 : Value) (i4 : Int) (j4 : Int) (t7 : Bool) (s8 : Heap) =>
  cndT t7 (arI .sub .i64 j4 1 fun t8 =>
  self2 data5 a5 cmp5 i4 t8 s8) (cndT (cmpI .gtr i4 j4) (heH 16 s8 fun base2 s9 =>
  idxS 2 data5 a5 fun p5 =>
  ldG 2 p5 s9 fun t9 =>
  idxS 2 data5 j4 fun p6 =>
  ldG 2 p6 s9 fun t10 =>
  idxS 2 data5 j4 fun p7 =>
  stN 2 p7 t9 s9 fun s10 =>
  idxS 2 data5 a5 fun p8 =>
  stN 2 p8 t10 s10 fun s11 =>
  some ((.tuple #[.int .i64 j4, .bool true]), s11)) (heH 16 s8 fun base3 s12 =>
  idxS 2 data5 j4 fun p9 =>
  ldG 2 p9 s12 fun t11 =>
  idxS 2 data5 i4 fun p10 =>
  ldG 2 p10 s12 fun t12 =>
  idxS 2 data5 i4 fun p11 =>
  stN 2 p11 t11 s12 fun s13 =>
  idxS 2 data5 j4 fun p12 =>
  stN 2 p12 t12 s13 fun s14 =>
  arI .add .i64 i4 1 fun t13 =>
  arI .sub .i64 j4 1 fun t14 =>
  loopN (botJ [.v, .i .i64, .v, .i .i64, .i .i64]) (fun self3 => fun (data6 : Value) (a6 : Int) (cmp6 : Value) (i5 : Int) (j5 : Int) (s15 : Heap) =>
  loopN (botJ [.v, .i .i64, .v, .i .i64, .i .i64]) (fun self4 => fun (data7 : Value) (a7 : Int) (cmp7 : Value) (i6 : Int) (j6 : Int) (s16 : Heap) =>
  joinK (fun (data8 : Value) (a8 : Int) (cmp8 : Value) (i7 : Int) (j7 : Int) (t15 : Bool) (s17 : Heap) =>
  cndT t15 (arI .add .i64 i7 1 fun t16 =>
  self4 data8 a8 cmp8 t16 j7 s17) (loopN (botJ [.v, .i .i64, .v, .i .i64, .i .i64]) (fun self5 => fun (data9 : Value) (a9 : Int) (cmp9 : Value) (i8 : Int) (j8 : Int) (s18 : Heap) =>
  joinK (fun (data10 : Value) (a10 : Int) (cmp10 : Value) (i9 : Int) (j9 : Int) (t17 : Bool) (s19 : Heap) =>
  cndT t17 (arI .sub .i64 j9 1 fun t18 =>
  self5 data10 a10 cmp10 i9 t18 s19) (cndT (cmpI .gtr i9 j9) (heH 16 s19 fun base4 s20 =>
  idxS 2 data10 a10 fun p13 =>
  ldG 2 p13 s20 fun t19 =>
  idxS 2 data10 j9 fun p14 =>
  ldG 2 p14 s20 fun t20 =>
  idxS 2 data10 j9 fun p15 =>
  stN 2 p15 t19 s20 fun s21 =>
  idxS 2 data10 a10 fun p16 =>
  stN 2 p16 t20 s21 fun s22 =>
  some ((.tuple #[.int .i64 j9, .bool false]), s22)) (heH 16 s19 fun base5 s23 =>
  idxS 2 data10 j9 fun p17 =>
  ldG 2 p17 s23 fun t21 =>
  idxS 2 data10 i9 fun p18 =>
  ldG 2 p18 s23 fun t22 =>
  idxS 2 data10 i9 fun p19 =>
  stN 2 p19 t21 s23 fun s24 =>
  idxS 2 data10 j9 fun p20 =>
  stN 2 p20 t22 s24 fun s25 =>
  arI .add .i64 i9 1 fun t23 =>
  arI .sub .i64 j9 1 fun t24 =>
  self3 data10 a10 cmp10 t23 t24 s25))) fun J4 =>
  heH 17 s18 fun base6 s26 =>
  cndT (cmpI .leq i8 j8) (idxS 2 data9 j8 fun p21 =>
  ldG 2 p21 s26 fun t25 =>
  idxS 2 data9 a9 fun p22 =>
  ldG 2 p22 s26 fun t26 =>
  fnOf cmp9 [.agg t25.toArray, .agg t26.toArray] fun tg1 =>
  (callJ [.i .i64] R tg1 s26 fun (r1 : Int) (s27 : Heap) =>
  J4 data9 a9 cmp9 i8 j8 (!(cmpI .lss r1 0)) s27)) (J4 data9 a9 cmp9 i8 j8 false s26)) L data8 a8 cmp8 i7 j7 s17)) fun J3 =>
  heH 16 s16 fun base7 s28 =>
  cndT (cmpI .leq i6 j6) (idxS 2 data7 i6 fun p23 =>
  ldG 2 p23 s28 fun t27 =>
  idxS 2 data7 a7 fun p24 =>
  ldG 2 p24 s28 fun t28 =>
  fnOf cmp7 [.agg t27.toArray, .agg t28.toArray] fun tg2 =>
  (callJ [.i .i64] R tg2 s28 fun (r2 : Int) (s29 : Heap) =>
  J3 data7 a7 cmp7 i6 j6 (cmpI .lss r2 0) s29)) (J3 data7 a7 cmp7 i6 j6 false s28)) L data6 a6 cmp6 i5 j5 s15) L data5 a5 cmp5 t13 t14 s14))) fun J2 =>
  heH 17 s7 fun base8 s30 =>
  cndT (cmpI .leq i3 j3) (idxS 2 data4 j3 fun p25 =>
  ldG 2 p25 s30 fun t29 =>
  idxS 2 data4 a4 fun p26 =>
  ldG 2 p26 s30 fun t30 =>
  fnOf cmp4 [.agg t29.toArray, .agg t30.toArray] fun tg3 =>
  (callJ [.i .i64] R tg3 s30 fun (r3 : Int) (s31 : Heap) =>
  J2 data4 a4 cmp4 i3 j3 (!(cmpI .lss r3 0)) s31)) (J2 data4 a4 cmp4 i3 j3 false s30)) L data3 a3 cmp3 i2 j2 s6)) fun J1 =>
  heH 16 s5 fun base9 s32 =>
  cndT (cmpI .leq i1 j1) (idxS 2 data2 i1 fun p27 =>
  ldG 2 p27 s32 fun t31 =>
  idxS 2 data2 a2 fun p28 =>
  ldG 2 p28 s32 fun t32 =>
  fnOf cmp2 [.agg t31.toArray, .agg t32.toArray] fun tg4 =>
  (callJ [.i .i64] R tg4 s32 fun (r4 : Int) (s33 : Heap) =>
  J1 data2 a2 cmp2 i1 j1 (cmpI .lss r4 0) s33)) (J1 data2 a2 cmp2 i1 j1 false s32)) L data1 a1 cmp1 t3 t4 s4
def g77A : Ann := (.s .d (.s .d (.s .d (.s (.b (.l [(0, .v), (1, .i .i64), (4, .v), (12, .i .i64), (13, .i .i64)] (.s (.j [(0, .v), (1, .i .i64), (4, .v), (12, .i .i64), (13, .i .i64), (47, .b)] .d (.c .d .d)) (.b .d)))) (.s (.b (.l [(0, .v), (1, .i .i64), (4, .v), (12, .i .i64), (13, .i .i64)] (.s (.j [(0, .v), (1, .i .i64), (4, .v), (12, .i .i64), (13, .i .i64), (66, .b)] .d (.c .d .d)) (.b .d)))) (.s (.s .d (.c (.s .d (.s .d .d)) .d)) (.s .d (.s .d (.s .d (.s (.b (.l [(0, .v), (1, .i .i64), (4, .v), (12, .i .i64), (13, .i .i64)] (.b (.s (.b (.l [(0, .v), (1, .i .i64), (4, .v), (12, .i .i64), (13, .i .i64)] (.s (.j [(0, .v), (1, .i .i64), (4, .v), (12, .i .i64), (13, .i .i64), (120, .b)] .d (.c .d .d)) (.b .d)))) (.s (.b (.l [(0, .v), (1, .i .i64), (4, .v), (12, .i .i64), (13, .i .i64)] (.s (.j [(0, .v), (1, .i .i64), (4, .v), (12, .i .i64), (13, .i .i64), (139, .b)] .d (.c .d .d)) (.b .d)))) (.s (.s .d (.c .d .d)) (.s .d (.s .d .d)))))))) (.s .d (.s .d .d))))))))))))
theorem g77E (R : Idl.Callee) (L : Nat) : funT Tryz.prog R L Tryz.f77 g77A [.v, .i .i64, .i .i64, .i .i64, .v] = g77 R L := by kernel_rfl
/-- math/bits.Len32 -/
def g78 (R : Idl.Callee) (L : Nat) : JT [.i .u32] := fun (x1 : Int) (s1 : Heap) =>
  joinK (fun (x2 : Int) (n1 : Int) (s2 : Heap) =>
  joinK (fun (x3 : Int) (n2 : Int) (s3 : Heap) =>
  bdI (wr .u8 x3) fun t1 =>
  idxT (.string ⟨#[0, 1, 2, 2, 3, 3, 3, 3, 4, 4, 4, 4, 4, 4, 4, 4, 5, 5, 5, 5, 5, 5, 5, 5, 5, 5, 5, 5, 5, 5, 5, 5, 6, 6, 6, 6, 6, 6, 6, 6, 6, 6, 6, 6, 6, 6, 6, 6, 6, 6, 6, 6, 6, 6, 6, 6, 6, 6, 6, 6, 6, 6, 6, 6, 7, 7, 7, 7, 7, 7, 7, 7, 7, 7, 7, 7, 7, 7, 7, 7, 7, 7, 7, 7, 7, 7, 7, 7, 7, 7, 7, 7, 7, 7, 7, 7, 7, 7, 7, 7, 7, 7, 7, 7, 7, 7, 7, 7, 7, 7, 7, 7, 7, 7, 7, 7, 7, 7, 7, 7, 7, 7, 7, 7, 7, 7, 7, 7, 8, 8, 8, 8, 8, 8, 8, 8, 8, 8, 8, 8, 8, 8, 8, 8, 8, 8, 8, 8, 8, 8, 8, 8, 8, 8, 8, 8, 8, 8, 8, 8, 8, 8, 8, 8, 8, 8, 8, 8, 8, 8, 8, 8, 8, 8, 8, 8, 8, 8, 8, 8, 8, 8, 8, 8, 8, 8, 8, 8, 8, 8, 8, 8, 8, 8, 8, 8, 8, 8, 8, 8, 8, 8, 8, 8, 8, 8, 8, 8, 8, 8, 8, 8, 8, 8, 8, 8, 8, 8, 8, 8, 8, 8, 8, 8, 8, 8, 8, 8, 8, 8, 8, 8, 8, 8, 8, 8, 8, 8, 8, 8, 8, 8, 8, 8, 8, 8, 8, 8, 8, 8, 8, 8, 8, 8, 8, 8]⟩) t1 fun t2 =>
  bdI (wr .i64 t2) fun t3 =>
  arI .add .i64 n2 t3 fun t4 =>
  some (.int .i64 t4, s3)) fun J2 =>
  cndT (cmpI .geq x2 256) (arI .shr .u32 x2 8 fun t5 =>
  arI .add .i64 n1 8 fun t6 =>
  J2 t5 t6 s2) (J2 x2 n1 s2)) fun J1 =>
  cndT (cmpI .geq x1 65536) (arI .shr .u32 x1 16 fun t7 =>
  J1 t7 16 s1) (J1 x1 0 s1)
def g78A : Ann := (.s .d (.j [(0, .i .u32), (2, .i .i64)] (.s .d (.c (.s .d .d) .d)) (.j [(0, .i .u32), (2, .i .i64)] (.s .d (.c (.s .d .d) .d)) (.s .d .d))))
theorem g78E (R : Idl.Callee) (L : Nat) : funT Tryz.prog R L Tryz.f78 g78A [.i .u32] = g78 R L := by kernel_rfl
/-- math/bits.Len64 -/
def g79 (R : Idl.Callee) (L : Nat) : JT [.i .u64] := fun (x1 : Int) (s1 : Heap) =>
  joinK (fun (x2 : Int) (n1 : Int) (s2 : Heap) =>
  joinK (fun (x3 : Int) (n2 : Int) (s3 : Heap) =>
  joinK (fun (x4 : Int) (n3 : Int) (s4 : Heap) =>
  bdI (wr .u8 x4) fun t1 =>
  idxT (.string ⟨#[0, 1, 2, 2, 3, 3, 3, 3, 4, 4, 4, 4, 4, 4, 4, 4, 5, 5, 5, 5, 5, 5, 5, 5, 5, 5, 5, 5, 5, 5, 5, 5, 6, 6, 6, 6, 6, 6, 6, 6, 6, 6, 6, 6, 6, 6, 6, 6, 6, 6, 6, 6, 6, 6, 6, 6, 6, 6, 6, 6, 6, 6, 6, 6, 7, 7, 7, 7, 7, 7, 7, 7, 7, 7, 7, 7, 7, 7, 7, 7, 7, 7, 7, 7, 7, 7, 7, 7, 7, 7, 7, 7, 7, 7, 7, 7, 7, 7, 7, 7, 7, 7, 7, 7, 7, 7, 7, 7, 7, 7, 7, 7, 7, 7, 7, 7, 7, 7, 7, 7, 7, 7, 7, 7, 7, 7, 7, 7, 8, 8, 8, 8, 8, 8, 8, 8, 8, 8, 8, 8, 8, 8, 8, 8, 8, 8, 8, 8, 8, 8, 8, 8, 8, 8, 8, 8, 8, 8, 8, 8, 8, 8, 8, 8, 8, 8, 8, 8, 8, 8, 8, 8, 8, 8, 8, 8, 8, 8, 8, 8, 8, 8, 8, 8, 8, 8, 8, 8, 8, 8, 8, 8, 8, 8, 8, 8, 8, 8, 8, 8, 8, 8, 8, 8, 8, 8, 8, 8, 8, 8, 8, 8, 8, 8, 8, 8, 8, 8, 8, 8, 8, 8, 8, 8, 8, 8, 8, 8, 8, 8, 8, 8, 8, 8, 8, 8, 8, 8, 8, 8, 8, 8, 8, 8, 8, 8, 8, 8, 8, 8, 8, 8, 8, 8, 8, 8]⟩) t1 fun t2 =>
  bdI (wr .i64 t2) fun t3 =>
  arI .add .i64 n3 t3 fun t4 =>
  some (.int .i64 t4, s4)) fun J3 =>
  cndT (cmpI .geq x3 256) (arI .shr .u64 x3 8 fun t5 =>
  arI .add .i64 n2 8 fun t6 =>
  J3 t5 t6 s3) (J3 x3 n2 s3)) fun J2 =>
  cndT (cmpI .geq x2 65536) (arI .shr .u64 x2 16 fun t7 =>
  arI .add .i64 n1 16 fun t8 =>
  J2 t7 t8 s2) (J2 x2 n1 s2)) fun J1 =>
  cndT (cmpI .geq x1 4294967296) (arI .shr .u64 x1 32 fun t9 =>
  J1 t9 32 s1) (J1 x1 0 s1)
def g79A : Ann := (.s .d (.j [(0, .i .u64), (2, .i .i64)] (.s .d (.c (.s .d .d) .d)) (.j [(0, .i .u64), (2, .i .i64)] (.s .d (.c (.s .d .d) .d)) (.j [(0, .i .u64), (2, .i .i64)] (.s .d (.c (.s .d .d) .d)) (.s .d .d)))))
theorem g79E (R : Idl.Callee) (L : Nat) : funT Tryz.prog R L Tryz.f79 g79A [.i .u64] = g79 R L := by kernel_rfl
/-- cmp.isNaN[int] -/
def g80 (R : Idl.Callee) (L : Nat) : JT [.i .i64] := fun (x1 : Int) (s1 : Heap) =>
  some (.bool (cmpI .neq x1 x1), s1)
def g80A : Ann := (.s .d (.s .d .d))
theorem g80E (R : Idl.Callee) (L : Nat) : funT Tryz.prog R L Tryz.f80 g80A [.i .i64] = g80 R L := by kernel_rfl
/-- (*incipit/rank.Row).Len -/
def g81 (R : Idl.Callee) (L : Nat) : JT [.v] := fun (r1 : Value) (s1 : Heap) =>
  nilT .p r1 (.pointer none) fun c1 =>
  cndT (flipB true c1) (some (.int .i64 0, s1)) (nchk r1 fun p1 =>
  fldP p1 0 fun p2 =>
  ldI .i64 p2 s1 fun t1 =>
  some (.int .i64 t1, s1))
def g81A : Ann := (.s .d (.s (.s .d (.c (.s .d .d) .d)) (.s .d .d)))
theorem g81E (R : Idl.Callee) (L : Nat) : funT Tryz.prog R L Tryz.f81 g81A [.v] = g81 R L := by kernel_rfl
/-- (*incipit/packed.Array).At -/
def g82 (R : Idl.Callee) (L : Nat) : JT [.v, .i .i64] := fun (a1 : Value) (i1 : Int) (s1 : Heap) =>
  nilT .p a1 (.pointer none) fun c1 =>
  cndT (flipB true c1) (some ((.tuple #[.int .i64 0, .int .i64 11]), s1)) (joinK (fun (a2 : Value) (i2 : Int) (t1 : Bool) (s2 : Heap) =>
  cndT t1 (some ((.tuple #[.int .i64 0, .int .i64 10]), s2)) ((callJ [.i .i64] R (.fn 125 #[a2, .int .i64 i2]) s2 fun (r1 : Int) (s3 : Heap) =>
  some ((.tuple #[.int .i64 r1, .int .i64 0]), s3)))) fun J1 =>
  cndT (cmpI .lss i1 0) (J1 a1 i1 true s1) (nchk a1 fun p1 =>
  fldP p1 1 fun p2 =>
  ldI .i64 p2 s1 fun t2 =>
  J1 a1 i1 (cmpI .geq i1 t2) s1))
def g82A : Ann := (.s .d (.s (.b (.s .d (.c (.s .d .d) (.j [(0, .v), (1, .i .i64), (9, .b)] .d (.c (.s .d .d) .d))))) (.s .d .d)))
theorem g82E (R : Idl.Callee) (L : Nat) : funT Tryz.prog R L Tryz.f82 g82A [.v, .i .i64] = g82 R L := by kernel_rfl
/-- (*incipit/search.Index).row -/
def g83 (R : Idl.Callee) (L : Nat) : JT [.v, .i .i64] := fun (x1 : Value) (i1 : Int) (s1 : Heap) =>
  nilT .p x1 (.pointer none) fun c1 =>
  cndT (flipB true c1) (some (.int .i64 11, s1)) (joinK (fun (t1 : Bool) (s2 : Heap) =>
  cndT t1 (some (.int .i64 10, s2)) (some (.int .i64 0, s2))) fun J1 =>
  cndT (cmpI .lss i1 0) (J1 true s1) ((callJ [.i .i64] R (.fn 31 #[x1]) s1 fun (r1 : Int) (s3 : Heap) =>
  J1 (cmpI .geq i1 r1) s3)))
def g83A : Ann := (.s .d (.s (.b (.s .d (.c (.s .d .d) (.j [(8, .b)] .d (.c (.s .d .d) .d))))) (.s .d .d)))
theorem g83E (R : Idl.Callee) (L : Nat) : funT Tryz.prog R L Tryz.f83 g83A [.v, .i .i64] = g83 R L := by kernel_rfl
/-- sort.Search -/
def g84 (R : Idl.Callee) (L : Nat) : JT [.i .i64, .v] := fun (n1 : Int) (f1 : Value) (s1 : Heap) =>
  loopN (botJ [.v, .i .i64, .i .i64]) (fun self1 => fun (f2 : Value) (i1 : Int) (j1 : Int) (s2 : Heap) =>
  cndT (cmpI .lss i1 j1) (arI .add .i64 i1 j1 fun t1 =>
  bdI (wr .u64 t1) fun t2 =>
  arI .shr .u64 t2 1 fun t3 =>
  bdI (wr .i64 t3) fun t4 =>
  fnOf f2 [.int .i64 t4] fun tg1 =>
  (callJ [.b] R tg1 s2 fun (r1 : Bool) (s3 : Heap) =>
  cndT (!r1) (arI .add .i64 t4 1 fun t5 =>
  self1 f2 t5 j1 s3) (self1 f2 i1 t4 s3))) (some (.int .i64 i1, s2))) L f1 0 n1 s1
def g84A : Ann := (.s .d (.s .d (.s (.b (.l [(1, .v), (5, .i .i64), (6, .i .i64)] (.s (.s .d (.c .d .d)) (.b (.s .d (.s .d (.c .d .d))))))) (.s .d .d))))
theorem g84E (R : Idl.Callee) (L : Nat) : funT Tryz.prog R L Tryz.f84 g84A [.i .i64, .v] = g84 R L := by kernel_rfl
/-- (*incipit/alpha.Table).Sigma -/
def g85 (R : Idl.Callee) (L : Nat) : JT [.v] := fun (t1 : Value) (s1 : Heap) =>
  nilT .p t1 (.pointer none) fun c1 =>
  cndT (flipB true c1) (some (.int .i64 0, s1)) (nchk t1 fun p1 =>
  fldP p1 0 fun p2 =>
  ldV p2 s1 fun t2 =>
  lenV t2 fun n1 =>
  some (.int .i64 n1, s1))
def g85A : Ann := (.s .d (.s (.s .d (.c (.s .d .d) .d)) (.s .d .d)))
theorem g85E (R : Idl.Callee) (L : Nat) : funT Tryz.prog R L Tryz.f85 g85A [.v] = g85 R L := by kernel_rfl
/-- (*incipit/search.Index).First$1 -/
def g86 (R : Idl.Callee) (L : Nat) : JT [.i .i64, .v, .v] := fun (c1 : Int) (t1 : Value) (t2 : Value) (s1 : Heap) =>
  ldV t1 s1 fun t3 =>
  nchk t3 fun p1 =>
  fldP p1 0 fun p2 =>
  ldV p2 s1 fun t4 =>
  arI .add .i64 c1 1 fun t5 =>
  (callJ [.i .i64, .i .i64] R (.fn 65 #[t4, .int .i64 t5]) s1 fun (r1 : Int) (r2 : Int) (s2 : Heap) =>
  ldI .i64 t2 s2 fun t6 =>
  some (.bool (cmpI .gtr r1 t6), s2))
def g86A : Ann := (.s .d (.s .d (.s .d .d)))
theorem g86E (R : Idl.Callee) (L : Nat) : funT Tryz.prog R L Tryz.f86 g86A [.i .i64, .v, .v] = g86 R L := by kernel_rfl
/-- (*incipit/alpha.Table).Symbol -/
def g87 (R : Idl.Callee) (L : Nat) : JT [.v, .i .i64] := fun (t1 : Value) (code1 : Int) (s1 : Heap) =>
  nilT .p t1 (.pointer none) fun c1 =>
  cndT (flipB true c1) (some ((.tuple #[.int .i64 0, .int .i64 11]), s1)) (joinK (fun (t2 : Value) (code2 : Int) (t3 : Bool) (s2 : Heap) =>
  cndT t3 (some ((.tuple #[.int .i64 0, .int .i64 7]), s2)) (nchk t2 fun p1 =>
  fldP p1 0 fun p2 =>
  ldV p2 s2 fun t4 =>
  idxS 1 t4 code2 fun p3 =>
  ldI .i64 p3 s2 fun t5 =>
  some ((.tuple #[.int .i64 t5, .int .i64 0]), s2))) fun J1 =>
  cndT (cmpI .lss code1 0) (J1 t1 code1 true s1) (nchk t1 fun p4 =>
  fldP p4 0 fun p5 =>
  ldV p5 s1 fun t6 =>
  lenV t6 fun n1 =>
  J1 t1 code1 (cmpI .geq code1 n1) s1))
def g87A : Ann := (.s .d (.s (.b (.s .d (.c (.s .d .d) (.j [(0, .v), (1, .i .i64), (9, .b)] .d (.c (.s .d .d) .d))))) (.s .d .d)))
theorem g87E (R : Idl.Callee) (L : Nat) : funT Tryz.prog R L Tryz.f87 g87A [.v, .i .i64] = g87 R L := by kernel_rfl
/-- (*incipit/wavelet.Matrix).At -/
def g88 (R : Idl.Callee) (L : Nat) : JT [.v, .i .i64] := fun (m1 : Value) (i1 : Int) (s1 : Heap) =>
  nilT .p m1 (.pointer none) fun c1 =>
  cndT (flipB true c1) (some ((.tuple #[.int .i64 0, .int .i64 11]), s1)) (joinK (fun (m2 : Value) (i2 : Int) (t1 : Bool) (s2 : Heap) =>
  cndT t1 (some ((.tuple #[.int .i64 0, .int .i64 10]), s2)) (nchk m2 fun p1 =>
  fldP p1 1 fun p2 =>
  ldV p2 s2 fun t2 =>
  lenV t2 fun n1 =>
  loopN (botJ [.i .i64, .i .i64, .v, .i .i64, .i .i64]) (fun self1 => fun (i3 : Int) (c2 : Int) (t3 : Value) (t4 : Int) (t5 : Int) (s3 : Heap) =>
  cndT (cmpI .lss t5 t4) (idxS 1 t3 t5 fun p3 =>
  ldV p3 s3 fun t6 =>
  (callJ [.b, .i .i64] R (.fn 109 #[t6, .int .i64 i3]) s3 fun (r1 : Bool) (r2 : Int) (s4 : Heap) =>
  arI .shl .i64 c2 1 fun t7 =>
  joinK (fun (i4 : Int) (c3 : Int) (r3 : Value) (one1 : Bool) (t8 : Value) (t9 : Int) (t10 : Int) (s5 : Heap) =>
  (callJ [.i .i64] R (.fn 108 #[r3, .bool one1, .int .i64 i4]) s5 fun (r4 : Int) (s6 : Heap) =>
  arI .add .i64 t10 1 fun t11 =>
  self1 r4 c3 t8 t9 t11 s6)) fun J2 =>
  cndT r1 (arI .or .i64 t7 1 fun t12 =>
  J2 i3 t12 t6 r1 t3 t4 t5 s4) (J2 i3 t7 t6 r1 t3 t4 t5 s4))) (some ((.tuple #[.int .i64 c2, .int .i64 0]), s3))) L i2 0 t2 n1 0 s2)) fun J1 =>
  cndT (cmpI .lss i1 0) (J1 m1 i1 true s1) (nchk m1 fun p4 =>
  fldP p4 0 fun p5 =>
  ldI .i64 p5 s1 fun t13 =>
  J1 m1 i1 (cmpI .geq i1 t13) s1))
def g88A : Ann := (.s .d (.s (.b (.s .d (.c (.s .d .d) (.j [(0, .v), (1, .i .i64), (14, .b)] .d (.c (.s .d .d) .d))))) (.s .d (.s (.s .d (.b (.l [(1, .i .i64), (6, .i .i64), (28, .v), (29, .i .i64), (30, .i .i64)] (.s .d (.s (.c .d .d) (.s (.b (.s .d (.s .d (.s .d (.j [(1, .i .i64), (6, .i .i64), (8, .v), (9, .b), (28, .v), (29, .i .i64), (30, .i .i64)] (.s .d (.c .d .d)) .d))))) .d)))))) (.s .d .d)))))
theorem g88E (R : Idl.Callee) (L : Nat) : funT Tryz.prog R L Tryz.f88 g88A [.v, .i .i64] = g88 R L := by kernel_rfl
/-- incipit/docs.New -/
def g89 (R : Idl.Callee) (L : Nat) : JT [.v] := fun (sizes1 : Value) (s1 : Heap) =>
  lenV sizes1 fun n1 =>
  cndT (cmpI .gtr n1 64) (some ((.tuple #[(.pointer none), .int .i64 2]), s1)) (newO (mkRow [(.int .i64 0)]) s1 fun id1 s2 =>
  newO (mkRow [(.slice (some ⟨id1, 0, none⟩) 1 1), .slice none 0 0]) s2 fun id2 s3 =>
  lenV sizes1 fun n2 =>
  loopN (botJ [.v, .v, .i .i64, .i .i64]) (fun self1 => fun (l1 : Value) (t1 : Value) (t2 : Int) (t3 : Int) (s4 : Heap) =>
  cndT (cmpI .lss t3 t2) (idxS 1 t1 t3 fun p1 =>
  ldI .i64 p1 s4 fun t4 =>
  cndT (cmpI .gtr t4 1024) (some ((.tuple #[(.pointer none), .int .i64 2]), s4)) (cndT (cmpI .lss t4 0) (some ((.tuple #[(.pointer none), .int .i64 1]), s4)) (nchk l1 fun p2 =>
  fldP p2 1 fun p3 =>
  ldV p3 s4 fun t5 =>
  newO (mkRow [(.int .i64 t4)]) s4 fun id3 s5 =>
  appS Tryz.prog 1 8 [.int .i64 0] (some 45) t5 ((.slice (some ⟨id3, 0, none⟩) 1 1)) s5 fun t6 s6 =>
  nchk l1 fun p4 =>
  fldP p4 1 fun p5 =>
  stN 1 p5 [t6] s6 fun s7 =>
  heH 18 s7 fun base1 s8 =>
  nchk l1 fun p6 =>
  fldP p6 0 fun p7 =>
  ldV p7 s8 fun t7 =>
  (callJ [.i .i64] R (.fn 68 #[t7]) s8 fun (r1 : Int) (s9 : Heap) =>
  nchk l1 fun p8 =>
  fldP p8 0 fun p9 =>
  ldV p9 s8 fun t8 =>
  ldV p9 s9 fun t9 =>
  cndT (sameTV (.v t9) (.v t8)) (arI .add .i64 r1 t4 fun t10 =>
  arI .add .i64 t10 1 fun t11 =>
  puO base1 [(13, (mkRow [(.int .i64 t11)]))] s9 fun s10 =>
  appS Tryz.prog 1 8 [.int .i64 0] (some 79) t8 ((.slice (some ⟨(Nat.add base1 13), 0, none⟩) 1 1)) s10 fun t12 s11 =>
  nchk l1 fun p10 =>
  fldP p10 0 fun p11 =>
  stN 1 p11 [t12] s11 fun s12 =>
  arI .add .i64 t3 1 fun t13 =>
  self1 l1 t1 t2 t13 s12) (none))))) (some ((.tuple #[l1, .int .i64 0]), s4))) L (ptrTo id2) sizes1 n2 0 s3)
def g89A : Ann := (.s .d (.s (.s .d (.c (.s .d .d) .d)) (.s .d (.s (.s .d (.b (.l [(4, .v), (13, .v), (14, .i .i64), (15, .i .i64)] (.s .d (.s (.c .d .d) (.s (.b (.s .d (.s (.b (.s .d (.c (.s .d .d) (.s .d (.c (.s .d .d) .d))))) (.s .d .d)))) .d)))))) (.s .d .d)))))
theorem g89E (R : Idl.Callee) (L : Nat) : funT Tryz.prog R L Tryz.f89 g89A [.v] = g89 R L := by kernel_rfl
/-- incipit/suffix.Check -/
def g90 (R : Idl.Callee) (L : Nat) : JT [.v] := fun (text1 : Value) (s1 : Heap) =>
  lenV text1 fun n1 =>
  cndT (cmpI .gtr n1 65536) (some (.int .i64 2, s1)) ((callJ [.b] R (.fn 23 #[text1, (.func (.func 126) #[] #[])]) s1 fun (r1 : Bool) (s2 : Heap) =>
  cndT r1 (some (.int .i64 10, s2)) (joinK (fun (t1 : Bool) (s3 : Heap) =>
  cndT t1 (some (.int .i64 3, s3)) (some (.int .i64 0, s3))) fun J1 =>
  (callJ [.i .i64] R (.fn 30 #[text1, .int .i64 0]) s2 fun (r2 : Int) (s4 : Heap) =>
  lenV text1 fun n2 =>
  arI .sub .i64 n2 1 fun t2 =>
  cndT (cmpI .neq r2 t2) (J1 true s4) (lenV text1 fun n3 =>
  J1 (cmpI .eql n3 0) s4)))))
def g90A : Ann := (.s .d (.s (.b (.s .d (.c (.s .d .d) (.s .d (.c (.s .d .d) (.j [(10, .b)] .d (.c (.s .d .d) .d))))))) (.s .d .d)))
theorem g90E (R : Idl.Callee) (L : Nat) : funT Tryz.prog R L Tryz.f90 g90A [.v] = g90 R L := by kernel_rfl
/-- incipit/sais.down -/
def g91 (R : Idl.Callee) (L : Nat) : JT [.v] := fun (text1 : Value) (s1 : Heap) =>
  (callJ [.v] R (.fn 127 #[text1]) s1 fun (r1 : Value) (s2 : Heap) =>
  newO (mkRow [r1]) s2 fun id1 s3 =>
  joinK (fun (s4 : Value) (s5 : Heap) =>
  some (s4, s5)) fun J1 =>
  loopN (botJ [.v]) (fun self1 => fun (s6 : Value) (s7 : Heap) =>
  (callJ [.v] R (.fn 94 #[s6]) s7 fun (r2 : Value) (s8 : Heap) =>
  (callJ [.b] R (.fn 128 #[r2]) s8 fun (r3 : Bool) (s9 : Heap) =>
  cndT (!r3) ((callJ [.v] R (.fn 94 #[s6]) s9 fun (r4 : Value) (s10 : Heap) =>
  (callJ [.v, .i .i64] R (.fn 129 #[r4]) s10 fun (r5 : Value) (r6 : Int) (s11 : Heap) =>
  lenV r5 fun n1 =>
  cndT (cmpI .lss n1 2) (J1 s6 s11) (newO (mkRow [r5]) s11 fun id2 s12 =>
  appS Tryz.prog 1 24 [.slice none 0 0] (some 120) s6 ((.slice (some ⟨id2, 0, none⟩) 1 1)) s12 fun t1 s13 =>
  self1 t1 s13)))) (J1 s6 s9)))) L (.slice (some ⟨id1, 0, none⟩) 1 1) s3)
def g91A : Ann := (.s .d (.s .d (.s .d (.j [(3, .v)] (.b (.l [(3, .v)] (.s (.s .d (.c .d .d)) (.b (.s .d (.s (.s .d (.c .d .d)) .d)))))) (.s .d .d)))))
theorem g91E (R : Idl.Callee) (L : Nat) : funT Tryz.prog R L Tryz.f91 g91A [.v] = g91 R L := by kernel_rfl
end
end Go.Proofs.YtpddlhbhpncfaaaGreat
