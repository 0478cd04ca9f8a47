/- Typed forms of functions, printed by a program of our own. -/
import Derived.Test.YtpddlhbhpncfaaaGreatProg
import Derived.KernelRfl
import Derived.Test.YtpddlhbhpncfaaaGreatIa5
namespace Go.Proofs.YtpddlhbhpncfaaaGreat
open Go Go.Idl
set_option linter.unusedVariables false
noncomputable section
/-- incipit/alpha.New -/
def g136 (R : Idl.Callee) (L : Nat) : JT [.v] := fun (text1 : Value) (s1 : Heap) =>
  lenV text1 fun n1 =>
  cndT (cmpI .gtr n1 65536) (some ((.tuple #[(.pointer none), .int .i64 2]), s1)) (newO (mkRow (List.replicate 258 (.int .i64 0))) s1 fun id1 s2 =>
  lenV text1 fun n2 =>
  loopN (botJ [.v, .v, .i .i64, .i .i64]) (fun self1 => fun (often1 : Value) (t1 : Value) (t2 : Int) (t3 : Int) (s3 : Heap) =>
  cndT (cmpI .lss t3 t2) (idxS 1 t1 t3 fun p1 =>
  ldI .i64 p1 s3 fun t4 =>
  joinK (fun (often2 : Value) (s4 : Int) (t5 : Value) (t6 : Int) (t7 : Int) (t8 : Bool) (s5 : Heap) =>
  cndT t8 (some ((.tuple #[(.pointer none), .int .i64 10]), s5)) (idxP 258 1 often2 s4 fun p2 =>
  ldI .i64 p2 s5 fun t9 =>
  arI .add .i64 t9 1 fun t10 =>
  idxP 258 1 often2 s4 fun p3 =>
  stN 1 p3 [(.int .i64 t10)] s5 fun s6 =>
  arI .add .i64 t7 1 fun t11 =>
  self1 often2 t5 t6 t11 s6)) fun J1 =>
  cndT (cmpI .lss t4 0) (J1 often1 t4 t1 t2 t3 true s3) (J1 often1 t4 t1 t2 t3 (cmpI .geq t4 258) s3)) (ldG 258 often1 s3 fun t12 =>
  loopN (botJ [.v, .v, .a 258, .i .i64]) (fun self2 => fun (symbols1 : Value) (counts1 : Value) (t13 : List Value) (t14 : Int) (s7 : Heap) =>
  cndT (cmpI .lss t14 258) (joinK (fun (symbols2 : Value) (counts2 : Value) (t15 : List Value) (t16 : Int) (s8 : Heap) =>
  arI .add .i64 t16 1 fun t17 =>
  self2 symbols2 counts2 t15 t17 s8) fun J2 =>
  idxI 258 1 t13 t14 .i64 fun t18 =>
  cndT (cmpI .gtr t18 0) (newO (mkRow [(.int .i64 t14)]) s7 fun id2 s9 =>
  appS Tryz.prog 1 8 [.int .i64 0] (some 45) symbols1 ((.slice (some ⟨id2, 0, none⟩) 1 1)) s9 fun t19 s10 =>
  newO (mkRow [(.int .i64 t18)]) s10 fun id3 s11 =>
  appS Tryz.prog 1 8 [.int .i64 0] (some 45) counts1 ((.slice (some ⟨id3, 0, none⟩) 1 1)) s11 fun t20 s12 =>
  J2 t19 t20 t13 t14 s12) (J2 symbols1 counts1 t13 t14 s7)) ((callJ [.v] R (.fn 160 #[symbols1, counts1]) s7 fun (r1 : Value) (s13 : Heap) =>
  some ((.tuple #[r1, .int .i64 0]), s13)))) L (.slice none 0 0) (.slice none 0 0) t12 0 s3)) L (ptrTo id1) text1 n2 0 s2)
def g136A : Ann := (.s .d (.s (.s .d (.c (.s .d .d) .d)) (.s .d (.s (.s .d (.b (.l [(4, .v), (14, .v), (15, .i .i64), (16, .i .i64)] (.s .d (.s (.c .d .d) (.s (.b (.s .d (.s (.j [(4, .v), (6, .i .i64), (14, .v), (15, .i .i64), (16, .i .i64), (25, .b)] .d (.c (.s .d .d) .d)) .d))) .d)))))) (.s .d (.s (.s .d (.b (.l [(7, .v), (8, .v), (32, .a 258), (33, .i .i64)] (.s .d (.s (.c .d .d) (.j [(7, .v), (8, .v), (32, .a 258), (33, .i .i64)] (.b (.s .d (.s .d (.c .d .d)))) .d)))))) (.s .d .d)))))))
theorem g136E (R : Idl.Callee) (L : Nat) : funT Tryz.prog R L Tryz.f136 g136A [.v] = g136 R L := by kernel_rfl
/-- (*incipit/alpha.Table).Count -/
def g137 (R : Idl.Callee) (L : Nat) : JT [.v, .i .i64] := fun (t1 : Value) (code1 : Int) (s1 : Heap) =>
  joinK (fun (t2 : Value) (code2 : Int) (t3 : Bool) (s2 : Heap) =>
  cndT t3 (some (.int .i64 0, s2)) (nchk t2 fun p1 =>
  fldP p1 1 fun p2 =>
  ldV p2 s2 fun t4 =>
  idxS 1 t4 code2 fun p3 =>
  ldI .i64 p3 s2 fun t5 =>
  some (.int .i64 t5, s2))) fun J1 =>
  nilT .p t1 (.pointer none) fun c1 =>
  cndT (flipB true c1) (J1 t1 code1 true s1) (cndT (cmpI .lss code1 0) (J1 t1 code1 true s1) (nchk t1 fun p4 =>
  fldP p4 0 fun p5 =>
  ldV p5 s1 fun t6 =>
  lenV t6 fun n1 =>
  J1 t1 code1 (cmpI .geq code1 n1) s1))
def g137A : Ann := (.s .d (.s (.j [(0, .v), (1, .i .i64), (19, .b)] .d (.c (.s .d .d) .d)) (.s .d .d)))
theorem g137E (R : Idl.Callee) (L : Nat) : funT Tryz.prog R L Tryz.f137 g137A [.v, .i .i64] = g137 R L := by kernel_rfl
/-- (*incipit/alpha.Table).Codes -/
def g138 (R : Idl.Callee) (L : Nat) : JT [.v, .v] := fun (t1 : Value) (text1 : Value) (s1 : Heap) =>
  newO (mkRow [t1]) s1 fun id1 s2 =>
  ldV (ptrTo id1) s2 fun t2 =>
  nilT .p t2 (.pointer none) fun c1 =>
  cndT (flipB true c1) (some ((.tuple #[(.slice none 0 0), .int .i64 11]), s2)) ((callJ [.v, .i .i64] R (.fn 161 #[text1, (.func (.func 162) #[] #[(ptrTo id1)])]) s2 fun (r1 : Value) (r2 : Int) (s3 : Heap) =>
  some ((.tuple #[r1, .int .i64 r2]), s3)))
def g138A : Ann := (.s .d (.s (.s .d (.c (.s .d .d) .d)) (.s .d .d)))
theorem g138E (R : Idl.Callee) (L : Nat) : funT Tryz.prog R L Tryz.f138 g138A [.v, .v] = g138 R L := by kernel_rfl
/-- incipit/bwt.Of -/
def g139 (R : Idl.Callee) (L : Nat) : JT [.v] := fun (text1 : Value) (s1 : Heap) =>
  (callJ [.v, .i .i64] R (.fn 52 #[text1]) s1 fun (r1 : Value) (r2 : Int) (s2 : Heap) =>
  cndT (cmpI .neq r2 0) (some ((.tuple #[(.slice none 0 0), .int .i64 r2]), s2)) ((callJ [.v, .i .i64] R (.fn 163 #[text1, r1]) s2 fun (r3 : Value) (r4 : Int) (s3 : Heap) =>
  some ((.tuple #[r3, .int .i64 r4]), s3))))
def g139A : Ann := (.s .d (.s .d (.s (.s .d (.c (.s .d .d) .d)) (.s .d .d))))
theorem g139E (R : Idl.Callee) (L : Nat) : funT Tryz.prog R L Tryz.f139 g139A [.v] = g139 R L := by kernel_rfl
/-- incipit/wavelet.Fit -/
def g140 (R : Idl.Callee) (L : Nat) : JT [.v] := fun (codes1 : Value) (s1 : Heap) =>
  lenV codes1 fun n1 =>
  loopN (botJ [.v, .i .i64, .v, .i .i64, .i .i64]) (fun self1 => fun (codes2 : Value) (width1 : Int) (t1 : Value) (t2 : Int) (t3 : Int) (s2 : Heap) =>
  cndT (cmpI .lss t3 t2) (idxS 1 t1 t3 fun p1 =>
  ldI .i64 p1 s2 fun t4 =>
  joinK (fun (codes3 : Value) (width2 : Int) (c1 : Int) (t5 : Value) (t6 : Int) (t7 : Int) (t8 : Bool) (s3 : Heap) =>
  cndT t8 (some ((.tuple #[(.pointer none), .int .i64 10]), s3)) ((callJ [.i .i64] R (.fn 164 #[.int .i64 c1]) s3 fun (r1 : Int) (s4 : Heap) =>
  bdI (maxI width2 r1) fun t9 =>
  arI .add .i64 t7 1 fun t10 =>
  self1 codes3 t9 t5 t6 t10 s4))) fun J1 =>
  cndT (cmpI .lss t4 0) (J1 codes2 width1 t4 t1 t2 t3 true s2) (J1 codes2 width1 t4 t1 t2 t3 (cmpI .geq t4 65536) s2)) ((callJ [.v, .i .i64] R (.fn 165 #[.int .i64 width1, codes2]) s2 fun (r2 : Value) (r3 : Int) (s5 : Heap) =>
  some ((.tuple #[r2, .int .i64 r3]), s5)))) L codes1 1 codes1 n1 0 s1
def g140A : Ann := (.s .d (.s .d (.s (.s .d (.b (.l [(0, .v), (4, .i .i64), (7, .v), (8, .i .i64), (9, .i .i64)] (.s .d (.s (.c .d .d) (.s (.b (.s .d (.s (.j [(0, .v), (4, .i .i64), (6, .i .i64), (7, .v), (8, .i .i64), (9, .i .i64), (18, .b)] .d (.c (.s .d .d) .d)) .d))) .d)))))) (.s .d .d))))
theorem g140E (R : Idl.Callee) (L : Nat) : funT Tryz.prog R L Tryz.f140 g140A [.v] = g140 R L := by kernel_rfl
/-- incipit/rank.Of -/
def g141 (R : Idl.Callee) (L : Nat) : JT [.i .i64, .v] := fun (n1 : Int) (ones1 : Value) (s1 : Heap) =>
  newO (mkRow [(.int .i64 n1)]) s1 fun id1 s2 =>
  ldI .i64 (ptrTo id1) s2 fun t1 =>
  cndT (cmpI .gtr t1 65536) (some ((.tuple #[(.pointer none), .int .i64 2]), s2)) (ldI .i64 (ptrTo id1) s2 fun t2 =>
  cndT (cmpI .lss t2 0) (some ((.tuple #[(.pointer none), .int .i64 1]), s2)) ((callJ [.b] R (.fn 23 #[ones1, (.func (.func 166) #[] #[(ptrTo id1)])]) s2 fun (r1 : Bool) (s3 : Heap) =>
  cndT r1 (some ((.tuple #[(.pointer none), .int .i64 10]), s3)) (ldI .i64 (ptrTo id1) s3 fun t3 =>
  (callJ [.v] R (.fn 167 #[.int .i64 t3]) s3 fun (r2 : Value) (s4 : Heap) =>
  lenV ones1 fun n2 =>
  loopN (botJ [.v, .v, .i .i64, .i .i64]) (fun self1 => fun (r3 : Value) (t4 : Value) (t5 : Int) (t6 : Int) (s5 : Heap) =>
  cndT (cmpI .lss t6 t5) (idxS 1 t4 t6 fun p1 =>
  ldI .i64 p1 s5 fun t7 =>
  (callJ [] R (.fn 168 #[r3, .int .i64 t7]) s5 fun (s6 : Heap) =>
  arI .add .i64 t6 1 fun t8 =>
  self1 r3 t4 t5 t8 s6)) (some ((.tuple #[r3, .int .i64 0]), s5))) L r2 ones1 n2 0 s4)))))
def g141A : Ann := (.s .d (.s (.b (.s .d (.c (.s .d .d) (.s .d (.c (.s .d .d) (.s .d (.c (.s .d .d) .d))))))) (.s .d (.s (.s .d (.b (.l [(6, .v), (21, .v), (22, .i .i64), (23, .i .i64)] (.s .d (.s (.c .d .d) (.s (.b (.s .d .d)) .d)))))) (.s .d .d)))))
theorem g141E (R : Idl.Callee) (L : Nat) : funT Tryz.prog R L Tryz.f141 g141A [.i .i64, .v] = g141 R L := by kernel_rfl
/-- incipit/packed.Fit -/
def g142 (R : Idl.Callee) (L : Nat) : JT [.v] := fun (l1 : Value) (s1 : Heap) =>
  (callJ [.b] R (.fn 169 #[.int .i64 31, l1]) s1 fun (r1 : Bool) (s2 : Heap) =>
  cndT (!r1) (some ((.tuple #[(.pointer none), .int .i64 10]), s2)) (lenV l1 fun n1 =>
  loopN (botJ [.v, .i .i64, .v, .i .i64, .i .i64]) (fun self1 => fun (l2 : Value) (width1 : Int) (t1 : Value) (t2 : Int) (t3 : Int) (s3 : Heap) =>
  cndT (cmpI .lss t3 t2) (idxS 1 t1 t3 fun p1 =>
  ldI .i64 p1 s3 fun t4 =>
  (callJ [.i .i64] R (.fn 164 #[.int .i64 t4]) s3 fun (r2 : Int) (s4 : Heap) =>
  bdI (maxI width1 r2) fun t5 =>
  arI .add .i64 t3 1 fun t6 =>
  self1 l2 t5 t1 t2 t6 s4)) ((callJ [.v, .i .i64] R (.fn 170 #[.int .i64 width1, l2]) s3 fun (r3 : Value) (r4 : Int) (s5 : Heap) =>
  some ((.tuple #[r3, .int .i64 r4]), s5)))) L l1 1 l1 n1 0 s2))
def g142A : Ann := (.s .d (.s (.s .d (.c (.s .d .d) .d)) (.s .d (.s (.s .d (.b (.l [(0, .v), (4, .i .i64), (10, .v), (11, .i .i64), (12, .i .i64)] (.s .d (.s (.c .d .d) (.s (.b (.s .d .d)) .d)))))) (.s .d .d)))))
theorem g142E (R : Idl.Callee) (L : Nat) : funT Tryz.prog R L Tryz.f142 g142A [.v] = g142 R L := by kernel_rfl
/-- incipit/packed.right -/
def g143 (R : Idl.Callee) (L : Nat) : JT [.i .i64] := fun (width1 : Int) (s1 : Heap) =>
  cndT (cmpI .geq width1 1) (some (.bool (cmpI .leq width1 31), s1)) (some (.bool false, s1))
def g143A : Ann := (.s .d (.s .d .d))
theorem g143E (R : Idl.Callee) (L : Nat) : funT Tryz.prog R L Tryz.f143 g143A [.i .i64] = g143 R L := by kernel_rfl
/-- (*incipit/rank.Row).Count -/
def g144 (R : Idl.Callee) (L : Nat) : JT [.v, .b] := fun (r1 : Value) (one1 : Bool) (s1 : Heap) =>
  (callJ [.i .i64] R (.fn 81 #[r1]) s1 fun (r2 : Int) (s2 : Heap) =>
  (callJ [.i .i64, .i .i64] R (.fn 110 #[r1, .bool one1, .int .i64 r2]) s2 fun (r3 : Int) (r4 : Int) (s3 : Heap) =>
  some (.int .i64 r3, s3)))
def g144A : Ann := (.s .d (.s .d (.s .d .d)))
theorem g144E (R : Idl.Callee) (L : Nat) : funT Tryz.prog R L Tryz.f144 g144A [.v, .b] = g144 R L := by kernel_rfl
/-- (*incipit/rank.Row).ones -/
def g145 (R : Idl.Callee) (L : Nat) : JT [.v, .i .i64] := fun (r1 : Value) (i1 : Int) (s1 : Heap) =>
  (callJ [.a 2] R (.fn 171 #[r1]) s1 fun (r2 : List Value) (s2 : Heap) =>
  newO (mkRow [.slice none 0 0, .slice none 0 0]) s2 fun id1 s3 =>
  stN 2 (ptrTo id1) r2 s3 fun s4 =>
  arI .quo .i64 i1 64 fun t1 =>
  nchk r1 fun p1 =>
  fldP p1 1 fun p2 =>
  ldV p2 s4 fun t2 =>
  lenV t2 fun n1 =>
  cndT (cmpI .eql t1 n1) (cndT (cmpI .eql t1 0) (some (.int .i64 0, s4)) (arI .sub .i64 t1 1 fun t3 =>
  heH 23 s4 fun base1 s5 =>
  nchk r1 fun p3 =>
  fldP p3 1 fun p4 =>
  ldV p4 s5 fun t4 =>
  idxS 1 t4 t3 fun p5 =>
  ldI .u64 p5 s5 fun t5 =>
  (callJ [.i .i64] R (.fn 172 #[.int .u64 t5]) s5 fun (r3 : Int) (s6 : Heap) =>
  fldP (ptrTo id1) 0 fun p6 =>
  ldV p6 s5 fun t6 =>
  ldV p6 s6 fun t7 =>
  cndT (sameTV (.v t7) (.v t6)) (arI .mul .i64 t3 64 fun t8 =>
  arI .quo .i64 t8 512 fun t9 =>
  idxS 1 t6 t9 fun p7 =>
  ldI .i64 p7 s5 fun t10 =>
  ldI .i64 p7 s6 fun t11 =>
  cndT (sameTV (.i .i64 t11) (.i .i64 t10)) (fldP (ptrTo id1) 1 fun p8 =>
  ldV p8 s5 fun t12 =>
  ldV p8 s6 fun t13 =>
  cndT (sameTV (.v t13) (.v t12)) (idxS 1 t12 t3 fun p9 =>
  ldI .i64 p9 s5 fun t14 =>
  ldI .i64 p9 s6 fun t15 =>
  cndT (sameTV (.i .i64 t15) (.i .i64 t14)) (arI .add .i64 t10 t14 fun t16 =>
  arI .add .i64 t16 r3 fun t17 =>
  some (.int .i64 t17, s6)) (none)) (none)) (none)) (none)))) (heH 28 s4 fun base2 s7 =>
  nchk r1 fun p10 =>
  fldP p10 1 fun p11 =>
  ldV p11 s7 fun t18 =>
  idxS 1 t18 t1 fun p12 =>
  ldI .u64 p12 s7 fun t19 =>
  arI .rem .i64 i1 64 fun t20 =>
  arI .shl .u64 1 t20 fun t21 =>
  arI .sub .u64 t21 1 fun t22 =>
  arI .and .u64 t19 t22 fun t23 =>
  (callJ [.i .i64] R (.fn 172 #[.int .u64 t23]) s7 fun (r4 : Int) (s8 : Heap) =>
  fldP (ptrTo id1) 0 fun p13 =>
  ldV p13 s7 fun t24 =>
  ldV p13 s8 fun t25 =>
  cndT (sameTV (.v t25) (.v t24)) (arI .mul .i64 t1 64 fun t26 =>
  arI .quo .i64 t26 512 fun t27 =>
  idxS 1 t24 t27 fun p14 =>
  ldI .i64 p14 s7 fun t28 =>
  ldI .i64 p14 s8 fun t29 =>
  cndT (sameTV (.i .i64 t29) (.i .i64 t28)) (fldP (ptrTo id1) 1 fun p15 =>
  ldV p15 s7 fun t30 =>
  ldV p15 s8 fun t31 =>
  cndT (sameTV (.v t31) (.v t30)) (idxS 1 t30 t1 fun p16 =>
  ldI .i64 p16 s7 fun t32 =>
  ldI .i64 p16 s8 fun t33 =>
  cndT (sameTV (.i .i64 t33) (.i .i64 t32)) (arI .add .i64 t28 t32 fun t34 =>
  arI .add .i64 t34 r4 fun t35 =>
  some (.int .i64 t35, s8)) (none)) (none)) (none)) (none))))
def g145A : Ann := (.s .d (.s .d (.s .d (.s (.s .d (.c (.s (.s .d (.c (.s .d .d) .d)) (.s .d (.s .d .d))) .d)) (.s .d .d)))))
theorem g145E (R : Idl.Callee) (L : Nat) : funT Tryz.prog R L Tryz.f145 g145A [.v, .i .i64] = g145 R L := by kernel_rfl
/-- slices.siftDownOrdered[int] -/
def g146 (R : Idl.Callee) (L : Nat) : JT [.v, .i .i64, .i .i64, .i .i64] := fun (data1 : Value) (lo1 : Int) (hi1 : Int) (first1 : Int) (s1 : Heap) =>
  loopN (botJ [.v, .i .i64, .i .i64, .i .i64]) (fun self1 => fun (data2 : Value) (hi2 : Int) (first2 : Int) (root1 : Int) (s2 : Heap) =>
  arI .mul .i64 2 root1 fun t1 =>
  arI .add .i64 t1 1 fun t2 =>
  cndT (cmpI .geq t2 hi2) (some ((.tuple #[]), s2)) (joinK (fun (data3 : Value) (hi3 : Int) (first3 : Int) (root2 : Int) (child1 : Int) (s3 : Heap) =>
  heH 14 s3 fun base1 s4 =>
  arI .add .i64 first3 root2 fun t3 =>
  idxS 1 data3 t3 fun p1 =>
  ldI .i64 p1 s4 fun t4 =>
  arI .add .i64 first3 child1 fun t5 =>
  idxS 1 data3 t5 fun p2 =>
  ldI .i64 p2 s4 fun t6 =>
  (callJ [.b] R (.fn 103 #[.int .i64 t4, .int .i64 t6]) s4 fun (r1 : Bool) (s5 : Heap) =>
  cndT (!r1) (some ((.tuple #[]), s5)) (heH 24 s5 fun base2 s6 =>
  arI .add .i64 first3 root2 fun t7 =>
  arI .add .i64 first3 child1 fun t8 =>
  idxS 1 data3 t8 fun p3 =>
  ldI .i64 p3 s6 fun t9 =>
  arI .add .i64 first3 root2 fun t10 =>
  idxS 1 data3 t10 fun p4 =>
  ldI .i64 p4 s6 fun t11 =>
  idxS 1 data3 t7 fun p5 =>
  stN 1 p5 [(.int .i64 t9)] s6 fun s7 =>
  arI .add .i64 first3 child1 fun t12 =>
  idxS 1 data3 t12 fun p6 =>
  stN 1 p6 [(.int .i64 t11)] s7 fun s8 =>
  self1 data3 hi3 first3 child1 s8))) fun J1 =>
  joinK (fun (data4 : Value) (hi4 : Int) (first4 : Int) (root3 : Int) (child2 : Int) (t13 : Bool) (s9 : Heap) =>
  cndT t13 (arI .add .i64 child2 1 fun t14 =>
  J1 data4 hi4 first4 root3 t14 s9) (J1 data4 hi4 first4 root3 child2 s9)) fun J2 =>
  heH 20 s2 fun base3 s10 =>
  arI .add .i64 t2 1 fun t15 =>
  cndT (cmpI .lss t15 hi2) (arI .add .i64 first2 t2 fun t16 =>
  idxS 1 data2 t16 fun p7 =>
  ldI .i64 p7 s10 fun t17 =>
  arI .add .i64 first2 t2 fun t18 =>
  arI .add .i64 t18 1 fun t19 =>
  idxS 1 data2 t19 fun p8 =>
  ldI .i64 p8 s10 fun t20 =>
  (callJ [.b] R (.fn 103 #[.int .i64 t17, .int .i64 t20]) s10 fun (r2 : Bool) (s11 : Heap) =>
  J2 data2 hi2 first2 root1 t2 r2 s11)) (J2 data2 hi2 first2 root1 t2 false s10))) L data1 hi1 first1 lo1 s1
def g146A : Ann := (.s .d (.b (.l [(0, .v), (2, .i .i64), (3, .i .i64), (8, .i .i64)] (.b (.s .d (.s (.s .d (.c .d .d)) (.j [(0, .v), (2, .i .i64), (3, .i .i64), (8, .i .i64), (9, .i .i64)] (.j [(0, .v), (2, .i .i64), (3, .i .i64), (8, .i .i64), (9, .i .i64), (36, .b)] .d (.c .d .d)) (.s (.s .d (.c .d .d)) (.s .d .d)))))))))
theorem g146E (R : Idl.Callee) (L : Nat) : funT Tryz.prog R L Tryz.f146 g146A [.v, .i .i64, .i .i64, .i .i64] = g146 R L := by kernel_rfl
/-- slices.medianAdjacentOrdered[int] -/
def g147 (R : Idl.Callee) (L : Nat) : JT [.v, .i .i64, .v] := fun (data1 : Value) (a1 : Int) (swaps1 : Value) (s1 : Heap) =>
  arI .sub .i64 a1 1 fun t1 =>
  arI .add .i64 a1 1 fun t2 =>
  (callJ [.i .i64] R (.fn 148 #[data1, .int .i64 t1, .int .i64 a1, .int .i64 t2, swaps1]) s1 fun (r1 : Int) (s2 : Heap) =>
  some (.int .i64 r1, s2))
def g147A : Ann := (.s .d (.s .d .d))
theorem g147E (R : Idl.Callee) (L : Nat) : funT Tryz.prog R L Tryz.f147 g147A [.v, .i .i64, .v] = g147 R L := by kernel_rfl
/-- slices.medianOrdered[int] -/
def g148 (R : Idl.Callee) (L : Nat) : JT [.v, .i .i64, .i .i64, .i .i64, .v] := fun (data1 : Value) (a1 : Int) (b1 : Int) (c1 : Int) (swaps1 : Value) (s1 : Heap) =>
  (callJ [.i .i64, .i .i64] R (.fn 173 #[data1, .int .i64 a1, .int .i64 b1, swaps1]) s1 fun (r1 : Int) (r2 : Int) (s2 : Heap) =>
  (callJ [.i .i64, .i .i64] R (.fn 173 #[data1, .int .i64 r2, .int .i64 c1, swaps1]) s2 fun (r3 : Int) (r4 : Int) (s3 : Heap) =>
  (callJ [.i .i64, .i .i64] R (.fn 173 #[data1, .int .i64 r1, .int .i64 r3, swaps1]) s3 fun (r5 : Int) (r6 : Int) (s4 : Heap) =>
  some (.int .i64 r6, s4))))
def g148A : Ann := (.s .d (.s .d (.s .d (.s .d (.s .d .d)))))
theorem g148E (R : Idl.Callee) (L : Nat) : funT Tryz.prog R L Tryz.f148 g148A [.v, .i .i64, .i .i64, .i .i64, .v] = g148 R L := by kernel_rfl
/-- slices.order2CmpFunc[incipit/index.Hit] -/
def g149 (R : Idl.Callee) (L : Nat) : JT [.v, .i .i64, .i .i64, .v, .v] := fun (data1 : Value) (a1 : Int) (b1 : Int) (swaps1 : Value) (cmp1 : Value) (s1 : Heap) =>
  heH 11 s1 fun base1 s2 =>
  idxS 2 data1 b1 fun p1 =>
  ldG 2 p1 s2 fun t1 =>
  idxS 2 data1 a1 fun p2 =>
  ldG 2 p2 s2 fun t2 =>
  fnOf cmp1 [.agg t1.toArray, .agg t2.toArray] fun tg1 =>
  (callJ [.i .i64] R tg1 s2 fun (r1 : Int) (s3 : Heap) =>
  cndT (cmpI .lss r1 0) (nchk swaps1 fun p3 =>
  ldI .i64 p3 s3 fun t3 =>
  arI .add .i64 t3 1 fun t4 =>
  nchk swaps1 fun p4 =>
  stN 1 p4 [(.int .i64 t4)] s3 fun s4 =>
  some ((.tuple #[.int .i64 b1, .int .i64 a1]), s4)) (some ((.tuple #[.int .i64 a1, .int .i64 b1]), s3)))
def g149A : Ann := (.s .d (.s (.s .d (.c (.s .d (.s .d .d)) .d)) (.s .d .d)))
theorem g149E (R : Idl.Callee) (L : Nat) : funT Tryz.prog R L Tryz.f149 g149A [.v, .i .i64, .i .i64, .v, .v] = g149 R L := by kernel_rfl
/-- slices.Compact[[]int,int] -/
def g150 (R : Idl.Callee) (L : Nat) : JT [.v] := fun (s1 : Value) (s2 : Heap) =>
  lenV s1 fun n1 =>
  cndT (cmpI .lss n1 2) (some (s1, s2)) (loopN (botJ [.v, .i .i64]) (fun self1 => fun (s3 : Value) (k1 : Int) (s4 : Heap) =>
  lenV s3 fun n2 =>
  cndT (cmpI .lss k1 n2) (heH 10 s4 fun base1 s5 =>
  idxS 1 s3 k1 fun p1 =>
  ldI .i64 p1 s5 fun t1 =>
  arI .sub .i64 k1 1 fun t2 =>
  idxS 1 s3 t2 fun p2 =>
  ldI .i64 p2 s5 fun t3 =>
  cndT (cmpI .eql t1 t3) (slcV 1 s3 (some k1) none none fun t4 =>
  loopN (botJ [.v, .i .i64, .v, .i .i64]) (fun self2 => fun (s6 : Value) (k2 : Int) (s7 : Value) (k3 : Int) (s8 : Heap) =>
  lenV s7 fun n3 =>
  cndT (cmpI .lss k3 n3) (joinK (fun (s9 : Value) (k4 : Int) (s10 : Value) (k5 : Int) (s11 : Heap) =>
  arI .add .i64 k5 1 fun t5 =>
  self2 s9 k4 s10 t5 s11) fun J1 =>
  heH 10 s8 fun base2 s12 =>
  idxS 1 s7 k3 fun p3 =>
  ldI .i64 p3 s12 fun t6 =>
  arI .sub .i64 k3 1 fun t7 =>
  idxS 1 s7 t7 fun p4 =>
  ldI .i64 p4 s12 fun t8 =>
  cndT (cmpI .neq t6 t8) (idxS 1 s7 k3 fun p5 =>
  ldI .i64 p5 s12 fun t9 =>
  idxS 1 s6 k2 fun p6 =>
  stN 1 p6 [(.int .i64 t9)] s12 fun s13 =>
  arI .add .i64 k2 1 fun t10 =>
  J1 s6 t10 s7 k3 s13) (J1 s6 k2 s7 k3 s12)) (slcV 1 s6 (some k2) none none fun t11 =>
  byH (clearA Tryz.prog s8 #[45] #[t11]) fun s14 =>
  slcV 1 s6 none (some k2) none fun t12 =>
  some (t12, s14))) L s3 k1 t4 1 s5) (arI .add .i64 k1 1 fun t13 =>
  self1 s3 t13 s5)) (some (s3, s4))) L s1 1 s2)
def g150A : Ann := (.s .d (.s (.s .d (.c (.s .d .d) .d)) (.s (.s .d (.b (.l [(0, .v), (3, .i .i64)] (.s (.s .d (.c .d .d)) (.s (.b (.s .d (.c (.s .d (.s (.s .d (.b (.l [(0, .v), (3, .i .i64), (4, .v), (5, .i .i64)] (.s (.s .d (.c .d .d)) (.j [(0, .v), (3, .i .i64), (4, .v), (5, .i .i64)] (.b (.s .d (.c (.s .d .d) .d))) .d))))) (.s .d (.s .d .d)))) .d))) .d))))) (.s .d .d))))
theorem g150E (R : Idl.Callee) (L : Nat) : funT Tryz.prog R L Tryz.f150 g150A [.v] = g150 R L := by kernel_rfl
end
end Go.Proofs.YtpddlhbhpncfaaaGreat
