/- Typed forms of functions, printed by a program of our own. -/
import Derived.Test.YtpddlhbhpncfaaaGreatProg
import Derived.KernelRfl
import Derived.Test.YtpddlhbhpncfaaaGreatIa5
namespace Go.Proofs.YtpddlhbhpncfaaaGreat
open Go Go.Idl
set_option linter.unusedVariables false
noncomputable section
/-- slices.DeleteFunc[[]int,int] -/
def g183 (R : Idl.Callee) (L : Nat) : JT [.v, .v] := fun (s1 : Value) (del1 : Value) (s2 : Heap) =>
  (callJ [.i .i64] R (.fn 49 #[s1, del1]) s2 fun (r1 : Int) (s3 : Heap) =>
  cndT (cmpI .eql r1 (-1)) (some (s1, s3)) (arI .add .i64 r1 1 fun t1 =>
  loopN (botJ [.v, .v, .i .i64, .i .i64]) (fun self1 => fun (s4 : Value) (del2 : Value) (i1 : Int) (j1 : Int) (s5 : Heap) =>
  lenV s4 fun n1 =>
  cndT (cmpI .lss j1 n1) (joinK (fun (s6 : Value) (del3 : Value) (i2 : Int) (j2 : Int) (s7 : Heap) =>
  arI .add .i64 j2 1 fun t2 =>
  self1 s6 del3 i2 t2 s7) fun J1 =>
  idxS 1 s4 j1 fun p1 =>
  ldI .i64 p1 s5 fun t3 =>
  fnOf del2 [.int .i64 t3] fun tg1 =>
  (callJ [.b] R tg1 s5 fun (r2 : Bool) (s8 : Heap) =>
  cndT (!r2) (idxS 1 s4 i1 fun p2 =>
  stN 1 p2 [(.int .i64 t3)] s8 fun s9 =>
  arI .add .i64 i1 1 fun t4 =>
  J1 s4 del2 t4 j1 s9) (J1 s4 del2 i1 j1 s8))) (slcV 1 s4 (some i1) none none fun t5 =>
  byH (clearA Tryz.prog s5 #[45] #[t5]) fun s10 =>
  slcV 1 s4 none (some i1) none fun t6 =>
  some (t6, s10))) L s1 del1 r1 t1 s3))
def g183A : Ann := (.s .d (.s .d (.s (.s .d (.c (.s .d .d) .d)) (.s (.s .d (.b (.l [(0, .v), (1, .v), (5, .i .i64), (6, .i .i64)] (.s (.s .d (.c .d .d)) (.j [(0, .v), (1, .v), (5, .i .i64), (6, .i .i64)] (.b (.s .d (.s .d (.c (.s .d .d) .d)))) .d))))) (.s .d (.s .d .d))))))
theorem g183E (R : Idl.Callee) (L : Nat) : funT Tryz.prog R L Tryz.f183 g183A [.v, .v] = g183 R L := by kernel_rfl
/-- incipit/wavelet.New$3 -/
def g184 (R : Idl.Callee) (L : Nat) : JT [.i .i64, .v] := fun (c1 : Int) (t1 : Value) (s1 : Heap) =>
  ldV t1 s1 fun t2 =>
  fnOf t2 [.int .i64 c1] fun tg1 =>
  (callJ [.b] R tg1 s1 fun (r1 : Bool) (s2 : Heap) =>
  some (.bool (!r1), s2))
def g184A : Ann := (.s .d (.s .d .d))
theorem g184E (R : Idl.Callee) (L : Nat) : funT Tryz.prog R L Tryz.f184 g184A [.i .i64, .v] = g184 R L := by kernel_rfl
/-- slices.Concat[[]int,int] -/
def g185 (R : Idl.Callee) (L : Nat) : JT [.v] := fun (slices1 : Value) (s1 : Heap) =>
  lenV slices1 fun n1 =>
  loopN (botJ [.v, .i .i64, .v, .i .i64, .i .i64]) (fun self1 => fun (slices2 : Value) (size1 : Int) (t1 : Value) (t2 : Int) (t3 : Int) (s2 : Heap) =>
  cndT (cmpI .lss t3 t2) (joinK (fun (slices3 : Value) (size2 : Int) (t4 : Value) (t5 : Int) (t6 : Int) (s3 : Heap) =>
  arI .add .i64 t6 1 fun t7 =>
  self1 slices3 size2 t4 t5 t7 s3) fun J1 =>
  idxS 1 t1 t3 fun p1 =>
  ldV p1 s2 fun t8 =>
  lenV t8 fun n2 =>
  arI .add .i64 size1 n2 fun t9 =>
  cndT (cmpI .lss t9 0) (none) (J1 slices2 t9 t1 t2 t3 s2)) ((callJ [.v] R (.fn 193 #[(.slice none 0 0), .int .i64 size1]) s2 fun (r1 : Value) (s4 : Heap) =>
  lenV slices2 fun n3 =>
  loopN (botJ [.v, .v, .i .i64, .i .i64]) (fun self2 => fun (newslice1 : Value) (t10 : Value) (t11 : Int) (t12 : Int) (s5 : Heap) =>
  cndT (cmpI .lss t12 t11) (idxS 1 t10 t12 fun p2 =>
  ldV p2 s5 fun t13 =>
  appS Tryz.prog 1 8 [.int .i64 0] (some 45) newslice1 (t13) s5 fun t14 s6 =>
  arI .add .i64 t12 1 fun t15 =>
  self2 t14 t10 t11 t15 s6) (some (newslice1, s5))) L r1 slices2 n3 0 s4))) L slices1 0 slices1 n1 0 s1
def g185A : Ann := (.s .d (.s .d (.s (.s .d (.b (.l [(0, .v), (3, .i .i64), (9, .v), (10, .i .i64), (11, .i .i64)] (.s .d (.s (.c .d .d) (.j [(0, .v), (3, .i .i64), (9, .v), (10, .i .i64), (11, .i .i64)] (.b (.s .d (.s .d (.s .d (.c .d .d))))) .d)))))) (.s .d (.s (.s .d (.b (.l [(6, .v), (25, .v), (26, .i .i64), (27, .i .i64)] (.s .d (.s (.c .d .d) (.s (.b (.s .d .d)) .d)))))) (.s .d .d))))))
theorem g185E (R : Idl.Callee) (L : Nat) : funT Tryz.prog R L Tryz.f185 g185A [.v] = g185 R L := by kernel_rfl
/-- incipit/packed.fits$1 -/
def g186 (R : Idl.Callee) (L : Nat) : JT [.i .i64, .v] := fun (n1 : Int) (t1 : Value) (s1 : Heap) =>
  cndT (cmpI .lss n1 0) (some (.bool true, s1)) (ldI .i64 t1 s1 fun t2 =>
  arI .shr .i64 n1 t2 fun t3 =>
  some (.bool (cmpI .neq t3 0), s1))
def g186A : Ann := (.s .d (.s .d .d))
theorem g186E (R : Idl.Callee) (L : Nat) : funT Tryz.prog R L Tryz.f186 g186A [.i .i64, .v] = g186 R L := by kernel_rfl
/-- (*incipit/packed.Array).Add -/
def g187 (R : Idl.Callee) (L : Nat) : JT [.v, .v] := fun (a1 : Value) (l1 : Value) (s1 : Heap) =>
  nilT .p a1 (.pointer none) fun c1 =>
  cndT (flipB true c1) (some (.int .i64 11, s1)) (nchk a1 fun p1 =>
  fldP p1 0 fun p2 =>
  ldI .i64 p2 s1 fun t1 =>
  (callJ [.b] R (.fn 169 #[.int .i64 t1, l1]) s1 fun (r1 : Bool) (s2 : Heap) =>
  cndT (!r1) (some (.int .i64 10, s2)) (lenV l1 fun n1 =>
  nchk a1 fun p3 =>
  fldP p3 1 fun p4 =>
  ldI .i64 p4 s2 fun t2 =>
  arI .sub .i64 65536 t2 fun t3 =>
  cndT (cmpI .gtr n1 t3) (some (.int .i64 2, s2)) (heH 16 s2 fun base1 s3 =>
  nchk a1 fun p5 =>
  fldP p5 0 fun p6 =>
  ldI .i64 p6 s3 fun t4 =>
  nchk a1 fun p7 =>
  fldP p7 1 fun p8 =>
  ldI .i64 p8 s3 fun t5 =>
  lenV l1 fun n2 =>
  arI .add .i64 t5 n2 fun t6 =>
  arI .mul .i64 t4 t6 fun t7 =>
  arI .add .i64 t7 64 fun t8 =>
  arI .sub .i64 t8 1 fun t9 =>
  arI .quo .i64 t9 64 fun t10 =>
  heH 16 s3 fun base2 s4 =>
  nchk a1 fun p9 =>
  fldP p9 2 fun p10 =>
  ldV p10 s4 fun t11 =>
  nchk a1 fun p11 =>
  fldP p11 2 fun p12 =>
  ldV p12 s4 fun t12 =>
  lenV t12 fun n3 =>
  arI .sub .i64 t10 n3 fun t13 =>
  appS Tryz.prog 1 8 [.int .u64 0] (some 3) t11 (.int .i64 t13) s4 fun t14 s5 =>
  nchk a1 fun p13 =>
  fldP p13 2 fun p14 =>
  stN 1 p14 [t14] s5 fun s6 =>
  lenV l1 fun n4 =>
  loopN (botJ [.v, .v, .i .i64, .i .i64]) (fun self1 => fun (a2 : Value) (t15 : Value) (t16 : Int) (t17 : Int) (s7 : Heap) =>
  cndT (cmpI .lss t17 t16) (idxS 1 t15 t17 fun p15 =>
  ldI .i64 p15 s7 fun t18 =>
  nchk a2 fun p16 =>
  fldP p16 1 fun p17 =>
  ldI .i64 p17 s7 fun t19 =>
  (callJ [] R (.fn 194 #[a2, .int .i64 t19, .int .i64 t18]) s7 fun (s8 : Heap) =>
  nchk a2 fun p18 =>
  fldP p18 1 fun p19 =>
  ldI .i64 p19 s8 fun t20 =>
  arI .add .i64 t20 1 fun t21 =>
  nchk a2 fun p20 =>
  fldP p20 1 fun p21 =>
  stN 1 p21 [(.int .i64 t21)] s8 fun s9 =>
  arI .add .i64 t17 1 fun t22 =>
  self1 a2 t15 t16 t22 s9)) (some (.int .i64 0, s7))) L a1 l1 n4 0 s6))))
def g187A : Ann := (.s .d (.s (.b (.s .d (.c (.s .d .d) (.s .d (.c (.s .d .d) (.s .d (.c (.s .d .d) .d))))))) (.s .d (.s .d (.s (.s .d (.b (.l [(0, .v), (58, .v), (59, .i .i64), (60, .i .i64)] (.s .d (.s (.c .d .d) (.s (.b (.s .d (.s .d .d))) .d)))))) (.s .d .d))))))
theorem g187E (R : Idl.Callee) (L : Nat) : funT Tryz.prog R L Tryz.f187 g187A [.v, .v] = g187 R L := by kernel_rfl
/-- (*sync.Once).Do -/
def g188 (R : Idl.Callee) (L : Nat) : JT [.v, .v] := fun (o1 : Value) (f1 : Value) (s1 : Heap) =>
  nchk o1 fun p1 =>
  fldP p1 0 fun p2 =>
  (callJ [.b] R (.fn 195 #[p2]) s1 fun (r1 : Bool) (s2 : Heap) =>
  cndT (!r1) ((callJ [] R (.fn 196 #[o1, f1]) s2 fun (s3 : Heap) =>
  some ((.tuple #[]), s3))) (some ((.tuple #[]), s2)))
def g188A : Ann := (.s .d (.c .d .d))
theorem g188E (R : Idl.Callee) (L : Nat) : funT Tryz.prog R L Tryz.f188 g188A [.v, .v] = g188 R L := by kernel_rfl
/-- (*incipit/rank.Row).ready$1 -/
def g189 (R : Idl.Callee) (L : Nat) : JT [.v] := fun (t1 : Value) (s1 : Heap) =>
  ldV t1 s1 fun t2 =>
  nchk t2 fun p1 =>
  fldP p1 1 fun p2 =>
  ldV p2 s1 fun t3 =>
  lenV t3 fun n1 =>
  loopN (botJ [.v, .i .i64, .i .i64, .i .i64, .i .i64]) (fun self1 => fun (t4 : Value) (all1 : Int) (inq1 : Int) (t5 : Int) (t6 : Int) (s2 : Heap) =>
  cndT (cmpI .lss t6 t5) (joinK (fun (t7 : Value) (all2 : Int) (inq2 : Int) (i1 : Int) (t8 : Int) (t9 : Int) (s3 : Heap) =>
  heH 13 s3 fun base1 s4 =>
  ldV t7 s4 fun t10 =>
  nchk t10 fun p3 =>
  fldP p3 5 fun p4 =>
  fldP p4 1 fun p5 =>
  ldV p5 s4 fun t11 =>
  puO base1 [(7, (mkRow [(.int .i64 inq2)]))] s4 fun s5 =>
  appS Tryz.prog 1 8 [.int .i64 0] (some 45) t11 ((.slice (some ⟨(Nat.add base1 7), 0, none⟩) 1 1)) s5 fun t12 s6 =>
  ldV t7 s4 fun t13 =>
  ldV t7 s6 fun t14 =>
  cndT (sameTV (.v t14) (.v t13)) (nchk t13 fun p6 =>
  fldP p6 5 fun p7 =>
  fldP p7 1 fun p8 =>
  stN 1 p8 [t12] s6 fun s7 =>
  ldV t7 s7 fun t15 =>
  nchk t15 fun p9 =>
  fldP p9 1 fun p10 =>
  ldV p10 s7 fun t16 =>
  idxS 1 t16 i1 fun p11 =>
  ldI .u64 p11 s7 fun t17 =>
  (callJ [.i .i64] R (.fn 172 #[.int .u64 t17]) s7 fun (r1 : Int) (s8 : Heap) =>
  arI .add .i64 inq2 r1 fun t18 =>
  arI .add .i64 t9 1 fun t19 =>
  self1 t7 all2 t18 t8 t19 s8)) (none)) fun J1 =>
  arI .rem .i64 t6 8 fun t20 =>
  cndT (cmpI .eql t20 0) (arI .add .i64 all1 inq1 fun t21 =>
  heH 13 s2 fun base2 s9 =>
  ldV t4 s9 fun t22 =>
  nchk t22 fun p12 =>
  fldP p12 5 fun p13 =>
  fldP p13 0 fun p14 =>
  ldV p14 s9 fun t23 =>
  puO base2 [(7, (mkRow [(.int .i64 t21)]))] s9 fun s10 =>
  appS Tryz.prog 1 8 [.int .i64 0] (some 45) t23 ((.slice (some ⟨(Nat.add base2 7), 0, none⟩) 1 1)) s10 fun t24 s11 =>
  ldV t4 s9 fun t25 =>
  ldV t4 s11 fun t26 =>
  cndT (sameTV (.v t26) (.v t25)) (nchk t25 fun p15 =>
  fldP p15 5 fun p16 =>
  fldP p16 0 fun p17 =>
  stN 1 p17 [t24] s11 fun s12 =>
  J1 t4 t21 0 t6 t5 t6 s12) (none)) (J1 t4 all1 inq1 t6 t5 t6 s2)) (some ((.tuple #[]), s2))) L t1 0 0 n1 0 s1
def g189A : Ann := (.s .d (.s .d (.b (.l [(0, .v), (1, .i .i64), (2, .i .i64), (8, .i .i64), (9, .i .i64)] (.s .d (.s (.c .d .d) (.s (.b (.s .d (.j [(0, .v), (1, .i .i64), (2, .i .i64), (3, .i .i64), (8, .i .i64), (9, .i .i64)] (.s .d (.c (.s .d (.s .d .d)) .d)) (.s .d .d)))) .d)))))))
theorem g189E (R : Idl.Callee) (L : Nat) : funT Tryz.prog R L Tryz.f189 g189A [.v] = g189 R L := by kernel_rfl
/-- math/bits.Mul32 -/
def g190 (R : Idl.Callee) (L : Nat) : JT [.i .u32, .i .u32] := fun (x1 : Int) (y1 : Int) (s1 : Heap) =>
  bdI (wr .u64 x1) fun t1 =>
  bdI (wr .u64 y1) fun t2 =>
  arI .mul .u64 t1 t2 fun t3 =>
  arI .shr .u64 t3 32 fun t4 =>
  bdI (wr .u32 t4) fun t5 =>
  bdI (wr .u32 t3) fun t6 =>
  some ((.tuple #[.int .u32 t5, .int .u32 t6]), s1)
def g190A : Ann := (.s .d (.s .d (.s .d .d)))
theorem g190E (R : Idl.Callee) (L : Nat) : funT Tryz.prog R L Tryz.f190 g190A [.i .u32, .i .u32] = g190 R L := by kernel_rfl
/-- math/bits.Mul64 -/
def g191 (R : Idl.Callee) (L : Nat) : JT [.i .u64, .i .u64] := fun (x1 : Int) (y1 : Int) (s1 : Heap) =>
  arI .and .u64 x1 4294967295 fun t1 =>
  arI .shr .u64 x1 32 fun t2 =>
  arI .and .u64 y1 4294967295 fun t3 =>
  arI .shr .u64 y1 32 fun t4 =>
  arI .mul .u64 t1 t3 fun t5 =>
  arI .mul .u64 t2 t3 fun t6 =>
  arI .shr .u64 t5 32 fun t7 =>
  arI .add .u64 t6 t7 fun t8 =>
  arI .and .u64 t8 4294967295 fun t9 =>
  arI .shr .u64 t8 32 fun t10 =>
  arI .mul .u64 t1 t4 fun t11 =>
  arI .add .u64 t9 t11 fun t12 =>
  arI .mul .u64 t2 t4 fun t13 =>
  arI .add .u64 t13 t10 fun t14 =>
  arI .shr .u64 t12 32 fun t15 =>
  arI .add .u64 t14 t15 fun t16 =>
  arI .mul .u64 x1 y1 fun t17 =>
  some ((.tuple #[.int .u64 t16, .int .u64 t17]), s1)
def g191A : Ann := (.s .d (.s .d (.s .d (.s .d (.s .d (.s .d (.s .d (.s .d (.s .d (.s .d (.s .d (.s .d .d))))))))))))
theorem g191E (R : Idl.Callee) (L : Nat) : funT Tryz.prog R L Tryz.f191 g191A [.i .u64, .i .u64] = g191 R L := by kernel_rfl
/-- slices.Max[[]int,int] -/
def g192 (R : Idl.Callee) (L : Nat) : JT [.v] := fun (x1 : Value) (s1 : Heap) =>
  joinK (fun (x2 : Value) (s2 : Heap) =>
  idxS 1 x2 0 fun p1 =>
  ldI .i64 p1 s2 fun t1 =>
  loopN (botJ [.v, .i .i64, .i .i64]) (fun self1 => fun (x3 : Value) (m1 : Int) (i1 : Int) (s3 : Heap) =>
  lenV x3 fun n1 =>
  cndT (cmpI .lss i1 n1) (idxS 1 x3 i1 fun p2 =>
  ldI .i64 p2 s3 fun t2 =>
  bdI (maxI m1 t2) fun t3 =>
  arI .add .i64 i1 1 fun t4 =>
  self1 x3 t3 t4 s3) (some (.int .i64 m1, s3))) L x2 t1 1 s2) fun J1 =>
  lenV x1 fun n2 =>
  cndT (cmpI .lss n2 1) (none) (J1 x1 s1)
def g192A : Ann := (.s .d (.j [(0, .v)] (.s .d (.c .d .d)) (.s .d (.s (.s .d (.b (.l [(0, .v), (3, .i .i64), (4, .i .i64)] (.s (.s .d (.c .d .d)) (.s (.b .d) .d))))) (.s .d .d)))))
theorem g192E (R : Idl.Callee) (L : Nat) : funT Tryz.prog R L Tryz.f192 g192A [.v] = g192 R L := by kernel_rfl
/-- slices.Grow[[]int,int] -/
def g193 (R : Idl.Callee) (L : Nat) : JT [.v, .i .i64] := fun (s1 : Value) (n1 : Int) (s2 : Heap) =>
  joinK (fun (s3 : Value) (n2 : Int) (s4 : Heap) =>
  joinK (fun (s5 : Value) (s6 : Heap) =>
  some (s5, s6)) fun J2 =>
  capV s3 fun n3 =>
  lenV s3 fun n4 =>
  arI .sub .i64 n3 n4 fun t1 =>
  arI .sub .i64 n2 t1 fun t2 =>
  cndT (cmpI .gtr t2 0) (capV s3 fun n5 =>
  slcV 1 s3 none (some n5) none fun t3 =>
  appS Tryz.prog 1 8 [.int .i64 0] (some 3) t3 (.int .i64 t2) s4 fun t4 s7 =>
  lenV s3 fun n6 =>
  slcV 1 t4 none (some n6) none fun t5 =>
  J2 t5 s7) (J2 s3 s4)) fun J1 =>
  cndT (cmpI .lss n1 0) (none) (J1 s1 n1 s2)
def g193A : Ann := (.s .d (.j [(0, .v), (1, .i .i64)] (.s .d (.c .d .d)) (.j [(0, .v)] (.s .d (.s .d (.c .d .d))) (.s .d .d))))
theorem g193E (R : Idl.Callee) (L : Nat) : funT Tryz.prog R L Tryz.f193 g193A [.v, .i .i64] = g193 R L := by kernel_rfl
/-- (*incipit/packed.Array).put -/
def g194 (R : Idl.Callee) (L : Nat) : JT [.v, .i .i64, .i .i64] := fun (a1 : Value) (i1 : Int) (n1 : Int) (s1 : Heap) =>
  heH 16 s1 fun base1 s2 =>
  nchk a1 fun p1 =>
  fldP p1 0 fun p2 =>
  ldI .i64 p2 s2 fun t1 =>
  arI .mul .i64 t1 i1 fun t2 =>
  arI .quo .i64 t2 64 fun t3 =>
  nchk a1 fun p3 =>
  fldP p3 0 fun p4 =>
  ldI .i64 p4 s2 fun t4 =>
  arI .mul .i64 t4 i1 fun t5 =>
  arI .rem .i64 t5 64 fun t6 =>
  nchk a1 fun p5 =>
  fldP p5 0 fun p6 =>
  ldI .i64 p6 s2 fun t7 =>
  arI .shl .u64 1 t7 fun t8 =>
  arI .sub .u64 t8 1 fun t9 =>
  heH 23 s2 fun base2 s3 =>
  nchk a1 fun p7 =>
  fldP p7 2 fun p8 =>
  ldV p8 s3 fun t10 =>
  nchk a1 fun p9 =>
  fldP p9 2 fun p10 =>
  ldV p10 s3 fun t11 =>
  idxS 1 t11 t3 fun p11 =>
  ldI .u64 p11 s3 fun t12 =>
  arI .shl .u64 t9 t6 fun t13 =>
  arI .andNot .u64 t12 t13 fun t14 =>
  bdI (wr .u64 n1) fun t15 =>
  arI .shl .u64 t15 t6 fun t16 =>
  arI .or .u64 t14 t16 fun t17 =>
  idxS 1 t10 t3 fun p12 =>
  stN 1 p12 [(.int .u64 t17)] s3 fun s4 =>
  nchk a1 fun p13 =>
  fldP p13 0 fun p14 =>
  ldI .i64 p14 s4 fun t18 =>
  arI .add .i64 t6 t18 fun t19 =>
  cndT (cmpI .gtr t19 64) (heH 27 s4 fun base3 s5 =>
  nchk a1 fun p15 =>
  fldP p15 2 fun p16 =>
  ldV p16 s5 fun t20 =>
  arI .add .i64 t3 1 fun t21 =>
  nchk a1 fun p17 =>
  fldP p17 2 fun p18 =>
  ldV p18 s5 fun t22 =>
  arI .add .i64 t3 1 fun t23 =>
  idxS 1 t22 t23 fun p19 =>
  ldI .u64 p19 s5 fun t24 =>
  arI .sub .i64 64 t6 fun t25 =>
  arI .shr .u64 t9 t25 fun t26 =>
  arI .andNot .u64 t24 t26 fun t27 =>
  bdI (wr .u64 n1) fun t28 =>
  arI .sub .i64 64 t6 fun t29 =>
  arI .shr .u64 t28 t29 fun t30 =>
  arI .or .u64 t27 t30 fun t31 =>
  idxS 1 t20 t21 fun p20 =>
  stN 1 p20 [(.int .u64 t31)] s5 fun s6 =>
  some ((.tuple #[]), s6)) (some ((.tuple #[]), s4))
def g194A : Ann := (.s .d (.s .d (.s .d (.s .d (.c .d .d)))))
theorem g194E (R : Idl.Callee) (L : Nat) : funT Tryz.prog R L Tryz.f194 g194A [.v, .i .i64, .i .i64] = g194 R L := by kernel_rfl
/-- (*sync/atomic.Bool).Load -/
def g195 (R : Idl.Callee) (L : Nat) : JT [.v] := fun (x1 : Value) (s1 : Heap) =>
  nchk x1 fun p1 =>
  fldP p1 0 fun p2 =>
  (callJ [.i .u32] R (.fn 197 #[p2]) s1 fun (r1 : Int) (s2 : Heap) =>
  some (.bool (cmpI .neq r1 0), s2))
def g195A : Ann := (.s .d (.s .d .d))
theorem g195E (R : Idl.Callee) (L : Nat) : funT Tryz.prog R L Tryz.f195 g195A [.v] = g195 R L := by kernel_rfl
/-- (*sync.Once).doSlow -/
def g196 (R : Idl.Callee) (L : Nat) : JT [.v, .v] := fun (o1 : Value) (f1 : Value) (s1 : Heap) =>
  nchk o1 fun p1 =>
  fldP p1 1 fun p2 =>
  (callJ [] R (.fn 198 #[p2]) s1 fun (s2 : Heap) =>
  nchk o1 fun p3 =>
  fldP p3 1 fun p4 =>
  none)
def g196A : Ann := (.s .d (.s .d .d))
theorem g196E (R : Idl.Callee) (L : Nat) : funT Tryz.prog R L Tryz.f196 g196A [.v, .v] = g196 R L := by kernel_rfl
/-- (*sync.Mutex).Lock -/
def g198 (R : Idl.Callee) (L : Nat) : JT [.v] := fun (m1 : Value) (s1 : Heap) =>
  nchk m1 fun p1 =>
  fldP p1 0 fun p2 =>
  (callJ [] R (.fn 201 #[p2]) s1 fun (s2 : Heap) =>
  some ((.tuple #[]), s2))
def g198A : Ann := .d
theorem g198E (R : Idl.Callee) (L : Nat) : funT Tryz.prog R L Tryz.f198 g198A [.v] = g198 R L := by kernel_rfl
end
end Go.Proofs.YtpddlhbhpncfaaaGreat
