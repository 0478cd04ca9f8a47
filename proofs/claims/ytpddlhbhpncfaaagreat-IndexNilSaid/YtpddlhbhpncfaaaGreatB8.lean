/- Typed forms of functions, printed by a program of our own. -/
import Derived.Test.YtpddlhbhpncfaaaGreatProg
import Derived.KernelRfl
import Derived.Test.YtpddlhbhpncfaaaGreatIa5
namespace Go.Proofs.YtpddlhbhpncfaaaGreat
open Go Go.Idl
set_option linter.unusedVariables false
noncomputable section
/-- slices.nextPowerOfTwo -/
def g121 (R : Idl.Callee) (L : Nat) : JT [.i .i64] := fun (length1 : Int) (s1 : Heap) =>
  bdI (wr .u64 length1) fun t1 =>
  (callJ [.i .i64] R (.fn 40 #[.int .u64 t1]) s1 fun (r1 : Int) (s2 : Heap) =>
  arI .shl .u64 1 r1 fun t2 =>
  some (.int .u64 t2, s2))
def g121A : Ann := (.s .d (.s .d .d))
theorem g121E (R : Idl.Callee) (L : Nat) : funT Tryz.prog R L Tryz.f121 g121A [.i .i64] = g121 R L := by kernel_rfl
/-- (*slices.xorshift).Next -/
def g122 (R : Idl.Callee) (L : Nat) : JT [.v] := fun (r1 : Value) (s1 : Heap) =>
  heH 10 s1 fun base1 s2 =>
  nchk r1 fun p1 =>
  ldI .u64 p1 s2 fun t1 =>
  nchk r1 fun p2 =>
  ldI .u64 p2 s2 fun t2 =>
  arI .shl .u64 t2 13 fun t3 =>
  arI .xor .u64 t1 t3 fun t4 =>
  nchk r1 fun p3 =>
  stN 1 p3 [(.int .u64 t4)] s2 fun s3 =>
  heH 10 s3 fun base2 s4 =>
  nchk r1 fun p4 =>
  ldI .u64 p4 s4 fun t5 =>
  nchk r1 fun p5 =>
  ldI .u64 p5 s4 fun t6 =>
  arI .shr .u64 t6 7 fun t7 =>
  arI .xor .u64 t5 t7 fun t8 =>
  nchk r1 fun p6 =>
  stN 1 p6 [(.int .u64 t8)] s4 fun s5 =>
  heH 10 s5 fun base3 s6 =>
  nchk r1 fun p7 =>
  ldI .u64 p7 s6 fun t9 =>
  nchk r1 fun p8 =>
  ldI .u64 p8 s6 fun t10 =>
  arI .shl .u64 t10 17 fun t11 =>
  arI .xor .u64 t9 t11 fun t12 =>
  nchk r1 fun p9 =>
  stN 1 p9 [(.int .u64 t12)] s6 fun s7 =>
  nchk r1 fun p10 =>
  ldI .u64 p10 s7 fun t13 =>
  some (.int .u64 t13, s7)
def g122A : Ann := (.s .d (.s .d (.s .d (.s .d (.s .d .d)))))
theorem g122E (R : Idl.Callee) (L : Nat) : funT Tryz.prog R L Tryz.f122 g122A [.v] = g122 R L := by kernel_rfl
/-- slices.medianAdjacentCmpFunc[incipit/index.Hit] -/
def g123 (R : Idl.Callee) (L : Nat) : JT [.v, .i .i64, .v, .v] := fun (data1 : Value) (a1 : Int) (swaps1 : Value) (cmp1 : Value) (s1 : Heap) =>
  arI .sub .i64 a1 1 fun t1 =>
  arI .add .i64 a1 1 fun t2 =>
  (callJ [.i .i64] R (.fn 124 #[data1, .int .i64 t1, .int .i64 a1, .int .i64 t2, swaps1, cmp1]) s1 fun (r1 : Int) (s2 : Heap) =>
  some (.int .i64 r1, s2))
def g123A : Ann := (.s .d (.s .d .d))
theorem g123E (R : Idl.Callee) (L : Nat) : funT Tryz.prog R L Tryz.f123 g123A [.v, .i .i64, .v, .v] = g123 R L := by kernel_rfl
/-- slices.medianCmpFunc[incipit/index.Hit] -/
def g124 (R : Idl.Callee) (L : Nat) : JT [.v, .i .i64, .i .i64, .i .i64, .v, .v] := fun (data1 : Value) (a1 : Int) (b1 : Int) (c1 : Int) (swaps1 : Value) (cmp1 : Value) (s1 : Heap) =>
  (callJ [.i .i64, .i .i64] R (.fn 149 #[data1, .int .i64 a1, .int .i64 b1, swaps1, cmp1]) s1 fun (r1 : Int) (r2 : Int) (s2 : Heap) =>
  (callJ [.i .i64, .i .i64] R (.fn 149 #[data1, .int .i64 r2, .int .i64 c1, swaps1, cmp1]) s2 fun (r3 : Int) (r4 : Int) (s3 : Heap) =>
  (callJ [.i .i64, .i .i64] R (.fn 149 #[data1, .int .i64 r1, .int .i64 r3, swaps1, cmp1]) s3 fun (r5 : Int) (r6 : Int) (s4 : Heap) =>
  some (.int .i64 r6, s4))))
def g124A : Ann := (.s .d (.s .d (.s .d (.s .d (.s .d .d)))))
theorem g124E (R : Idl.Callee) (L : Nat) : funT Tryz.prog R L Tryz.f124 g124A [.v, .i .i64, .i .i64, .i .i64, .v, .v] = g124 R L := by kernel_rfl
/-- (*incipit/packed.Array).get -/
def g125 (R : Idl.Callee) (L : Nat) : JT [.v, .i .i64] := fun (a1 : Value) (i1 : Int) (s1 : Heap) =>
  heH 16 s1 fun base1 s2 =>
  nchk a1 fun p1 =>
  fldP p1 0 fun p2 =>
  ldI .i64 p2 s2 fun t1 =>
  arI .mul .i64 t1 i1 fun t2 =>
  arI .quo .i64 t2 64 fun t3 =>
  nchk a1 fun p3 =>
  fldP p3 0 fun p4 =>
  ldI .i64 p4 s2 fun t4 =>
  arI .mul .i64 t4 i1 fun t5 =>
  arI .rem .i64 t5 64 fun t6 =>
  nchk a1 fun p5 =>
  fldP p5 2 fun p6 =>
  ldV p6 s2 fun t7 =>
  idxS 1 t7 t3 fun p7 =>
  ldI .u64 p7 s2 fun t8 =>
  arI .shr .u64 t8 t6 fun t9 =>
  joinK (fun (a2 : Value) (n1 : Int) (s3 : Heap) =>
  nchk a2 fun p8 =>
  fldP p8 0 fun p9 =>
  ldI .i64 p9 s3 fun t10 =>
  arI .shl .u64 1 t10 fun t11 =>
  arI .sub .u64 t11 1 fun t12 =>
  arI .and .u64 n1 t12 fun t13 =>
  bdI (wr .i64 t13) fun t14 =>
  some (.int .i64 t14, s3)) fun J1 =>
  nchk a1 fun p10 =>
  fldP p10 0 fun p11 =>
  ldI .i64 p11 s2 fun t15 =>
  arI .add .i64 t6 t15 fun t16 =>
  cndT (cmpI .gtr t16 64) (nchk a1 fun p12 =>
  fldP p12 2 fun p13 =>
  ldV p13 s2 fun t17 =>
  arI .add .i64 t3 1 fun t18 =>
  idxS 1 t17 t18 fun p14 =>
  ldI .u64 p14 s2 fun t19 =>
  arI .sub .i64 64 t6 fun t20 =>
  arI .shl .u64 t19 t20 fun t21 =>
  arI .or .u64 t9 t21 fun t22 =>
  J1 a1 t22 s2) (J1 a1 t9 s2)
def g125A : Ann := (.s .d (.s .d (.s .d (.j [(0, .v), (7, .i .u64)] (.s .d (.c .d .d)) (.s .d .d)))))
theorem g125E (R : Idl.Callee) (L : Nat) : funT Tryz.prog R L Tryz.f125 g125A [.v, .i .i64] = g125 R L := by kernel_rfl
/-- incipit/suffix.Check$1 -/
def g126 (R : Idl.Callee) (L : Nat) : JT [.i .i64] := fun (c1 : Int) (s1 : Heap) =>
  cndT (cmpI .lss c1 0) (some (.bool true, s1)) (some (.bool (cmpI .geq c1 65536), s1))
def g126A : Ann := (.s .d (.s .d .d))
theorem g126E (R : Idl.Callee) (L : Nat) : funT Tryz.prog R L Tryz.f126 g126A [.i .i64] = g126 R L := by kernel_rfl
/-- slices.Clone[[]int,int] -/
def g127 (R : Idl.Callee) (L : Nat) : JT [.v] := fun (s1 : Value) (s2 : Heap) =>
  nilT .s s1 (.slice none 0 0) fun c1 =>
  cndT (flipB true c1) (some ((.slice none 0 0), s2)) (newO (mkRow []) s2 fun id1 s3 =>
  appS Tryz.prog 1 8 [.int .i64 0] (some 45) (.slice (some ⟨id1, 0, none⟩) 0 0) (s1) s3 fun t1 s4 =>
  some (t1, s4))
def g127A : Ann := (.s .d (.s (.s .d (.c (.s .d .d) .d)) (.s .d .d)))
theorem g127E (R : Idl.Callee) (L : Nat) : funT Tryz.prog R L Tryz.f127 g127A [.v] = g127 R L := by kernel_rfl
/-- incipit/sais.Unlike -/
def g128 (R : Idl.Callee) (L : Nat) : JT [.v] := fun (names1 : Value) (s1 : Heap) =>
  (callJ [.v] R (.fn 134 #[names1]) s1 fun (r1 : Value) (s2 : Heap) =>
  (callJ [.v] R (.fn 133 #[r1]) s2 fun (r2 : Value) (s3 : Heap) =>
  (callJ [.v] R (.fn 150 #[r2]) s3 fun (r3 : Value) (s4 : Heap) =>
  lenV r3 fun n1 =>
  lenV names1 fun n2 =>
  some (.bool (cmpI .eql n1 n2), s4))))
def g128A : Ann := (.s .d (.s .d .d))
theorem g128E (R : Idl.Callee) (L : Nat) : funT Tryz.prog R L Tryz.f128 g128A [.v] = g128 R L := by kernel_rfl
/-- incipit/induce.Reduced -/
def g129 (R : Idl.Callee) (L : Nat) : JT [.v] := fun (text1 : Value) (s1 : Heap) =>
  (callJ [.v, .i .i64] R (.fn 132 #[text1]) s1 fun (r1 : Value) (r2 : Int) (s2 : Heap) =>
  cndT (cmpI .neq r2 0) (some ((.tuple #[(.slice none 0 0), .int .i64 r2]), s2)) ((callJ [.v] R (.fn 135 #[text1, r1]) s2 fun (r3 : Value) (s3 : Heap) =>
  (callJ [.v, .i .i64] R (.fn 151 #[text1, r3]) s3 fun (r4 : Value) (r5 : Int) (s4 : Heap) =>
  some ((.tuple #[r4, .int .i64 0]), s4)))))
def g129A : Ann := (.s .d (.s .d (.s (.s .d (.c (.s .d .d) .d)) (.s .d (.s .d .d)))))
theorem g129E (R : Idl.Callee) (L : Nat) : funT Tryz.prog R L Tryz.f129 g129A [.v] = g129 R L := by kernel_rfl
/-- incipit/suffix.Turned -/
def g130 (R : Idl.Callee) (L : Nat) : JT [.v] := fun (l1 : Value) (s1 : Heap) =>
  lenV l1 fun n1 =>
  mslT [.int .i64 0] 1 8 n1 n1 fun ob1 len1 cap1 =>
  newO ob1 s1 fun id1 s2 =>
  lenV (.slice (some ⟨id1, 0, none⟩) len1 cap1) fun n2 =>
  loopN (botJ [.v, .v, .i .i64, .i .i64]) (fun self1 => fun (l2 : Value) (out1 : Value) (t1 : Int) (t2 : Int) (s3 : Heap) =>
  cndT (cmpI .lss t2 t1) (idxS 1 out1 t2 fun p1 =>
  stN 1 p1 [(.int .i64 (-1))] s3 fun s4 =>
  arI .add .i64 t2 1 fun t3 =>
  self1 l2 out1 t1 t3 s4) (lenV l2 fun n3 =>
  loopN (botJ [.v, .v, .v, .i .i64, .i .i64]) (fun self2 => fun (l3 : Value) (out2 : Value) (t4 : Value) (t5 : Int) (t6 : Int) (s5 : Heap) =>
  cndT (cmpI .lss t6 t5) (idxS 1 t4 t6 fun p2 =>
  ldI .i64 p2 s5 fun t7 =>
  joinK (fun (l4 : Value) (out3 : Value) (i1 : Int) (n4 : Int) (t8 : Value) (t9 : Int) (t10 : Int) (t11 : Bool) (s6 : Heap) =>
  cndT t11 (some ((.tuple #[(.slice none 0 0), .int .i64 3]), s6)) (idxS 1 out3 n4 fun p3 =>
  stN 1 p3 [(.int .i64 i1)] s6 fun s7 =>
  arI .add .i64 t10 1 fun t12 =>
  self2 l4 out3 t8 t9 t12 s7)) fun J1 =>
  cndT (cmpI .lss t7 0) (J1 l3 out2 t6 t7 t4 t5 t6 true s5) (lenV l3 fun n5 =>
  cndT (cmpI .geq t7 n5) (J1 l3 out2 t6 t7 t4 t5 t6 true s5) (idxS 1 out2 t7 fun p4 =>
  ldI .i64 p4 s5 fun t13 =>
  J1 l3 out2 t6 t7 t4 t5 t6 (cmpI .geq t13 0) s5))) (some ((.tuple #[out2, .int .i64 0]), s5))) L l2 out1 l2 n3 0 s3)) L l1 (.slice (some ⟨id1, 0, none⟩) len1 cap1) n2 0 s2
def g130A : Ann := (.s .d (.s .d (.s (.s .d (.b (.l [(0, .v), (4, .v), (12, .i .i64), (13, .i .i64)] (.s .d (.s (.c .d .d) (.s (.b (.s .d .d)) .d)))))) (.s (.s .d (.b (.l [(0, .v), (4, .v), (20, .v), (21, .i .i64), (22, .i .i64)] (.s .d (.s (.c .d .d) (.s (.b (.s .d (.s (.j [(0, .v), (4, .v), (6, .i .i64), (7, .i .i64), (20, .v), (21, .i .i64), (22, .i .i64), (41, .b)] .d (.c (.s .d .d) .d)) .d))) .d)))))) (.s .d .d)))))
theorem g130E (R : Idl.Callee) (L : Nat) : funT Tryz.prog R L Tryz.f130 g130A [.v] = g130 R L := by kernel_rfl
/-- incipit/sais.rank -/
def g131 (R : Idl.Callee) (L : Nat) : JT [.v] := fun (l1 : Value) (s1 : Heap) =>
  (callJ [.v] R (.fn 134 #[l1]) s1 fun (r1 : Value) (s2 : Heap) =>
  (callJ [.v] R (.fn 133 #[r1]) s2 fun (r2 : Value) (s3 : Heap) =>
  lenV l1 fun n1 =>
  mslT [.int .i64 0] 1 8 n1 n1 fun ob1 len1 cap1 =>
  newO ob1 s3 fun id1 s4 =>
  lenV l1 fun n2 =>
  loopN (botJ [.v, .v, .v, .i .i64, .i .i64]) (fun self1 => fun (sorted1 : Value) (out1 : Value) (t1 : Value) (t2 : Int) (t3 : Int) (s5 : Heap) =>
  cndT (cmpI .lss t3 t2) (idxS 1 t1 t3 fun p1 =>
  ldI .i64 p1 s5 fun t4 =>
  (callJ [.i .i64, .b] R (.fn 63 #[sorted1, .int .i64 t4]) s5 fun (r3 : Int) (r4 : Bool) (s6 : Heap) =>
  idxS 1 out1 t3 fun p2 =>
  stN 1 p2 [(.int .i64 r3)] s6 fun s7 =>
  arI .add .i64 t3 1 fun t5 =>
  self1 sorted1 out1 t1 t2 t5 s7)) (some (out1, s5))) L r2 (.slice (some ⟨id1, 0, none⟩) len1 cap1) l1 n2 0 s4))
def g131A : Ann := (.s .d (.s .d (.s .d (.s (.s .d (.b (.l [(3, .v), (4, .v), (13, .v), (14, .i .i64), (15, .i .i64)] (.s .d (.s (.c .d .d) (.s (.b (.s .d .d)) .d)))))) (.s .d .d)))))
theorem g131E (R : Idl.Callee) (L : Nat) : funT Tryz.prog R L Tryz.f131 g131A [.v] = g131 R L := by kernel_rfl
/-- incipit/suffix.Firsts -/
def g132 (R : Idl.Callee) (L : Nat) : JT [.v] := fun (text1 : Value) (s1 : Heap) =>
  (callJ [.v, .i .i64] R (.fn 152 #[text1]) s1 fun (r1 : Value) (r2 : Int) (s2 : Heap) =>
  cndT (cmpI .neq r2 0) (some ((.tuple #[(.slice none 0 0), .int .i64 r2]), s2)) (lenV r1 fun n1 =>
  loopN (botJ [.v, .v, .i .i64, .i .i64]) (fun self1 => fun (k1 : Value) (out1 : Value) (t1 : Int) (t2 : Int) (s3 : Heap) =>
  cndT (cmpI .lss t2 t1) (joinK (fun (k2 : Value) (out2 : Value) (t3 : Int) (t4 : Int) (s4 : Heap) =>
  arI .add .i64 t4 1 fun t5 =>
  self1 k2 out2 t3 t5 s4) fun J1 =>
  joinK (fun (k3 : Value) (out3 : Value) (i1 : Int) (t6 : Int) (t7 : Int) (t8 : Bool) (s5 : Heap) =>
  cndT t8 (J1 k3 out3 t6 t7 s5) (newO (mkRow [(.int .i64 i1)]) s5 fun id1 s6 =>
  appS Tryz.prog 1 8 [.int .i64 0] (some 45) out3 ((.slice (some ⟨id1, 0, none⟩) 1 1)) s6 fun t9 s7 =>
  J1 k3 t9 t6 t7 s7)) fun J2 =>
  cndT (cmpI .eql t2 0) (J2 k1 out1 t2 t1 t2 true s3) (idxS 1 k1 t2 fun p1 =>
  ldB p1 s3 fun t10 =>
  cndT (!t10) (J2 k1 out1 t2 t1 t2 true s3) (arI .sub .i64 t2 1 fun t11 =>
  idxS 1 k1 t11 fun p2 =>
  ldB p2 s3 fun t12 =>
  J2 k1 out1 t2 t1 t2 t12 s3))) (some ((.tuple #[out1, .int .i64 0]), s3))) L r1 (.slice none 0 0) n1 0 s2))
def g132A : Ann := (.s .d (.s .d (.s (.s .d (.c (.s .d .d) .d)) (.s .d (.s .d (.s (.s .d (.b (.l [(4, .v), (6, .v), (17, .i .i64), (18, .i .i64)] (.s .d (.s (.c .d .d) (.j [(4, .v), (6, .v), (17, .i .i64), (18, .i .i64)] (.b (.s .d (.s (.j [(4, .v), (6, .v), (7, .i .i64), (17, .i .i64), (18, .i .i64), (36, .b)] .d (.c .d .d)) .d))) .d)))))) (.s .d .d)))))))
theorem g132E (R : Idl.Callee) (L : Nat) : funT Tryz.prog R L Tryz.f132 g132A [.v] = g132 R L := by kernel_rfl
/-- slices.Sorted[int] -/
def g133 (R : Idl.Callee) (L : Nat) : JT [.v] := fun (seq1 : Value) (s1 : Heap) =>
  (callJ [.v] R (.fn 153 #[seq1]) s1 fun (r1 : Value) (s2 : Heap) =>
  (callJ [] R (.fn 37 #[r1]) s2 fun (s3 : Heap) =>
  some (r1, s3)))
def g133A : Ann := (.s .d (.s .d (.s .d (.s .d .d))))
theorem g133E (R : Idl.Callee) (L : Nat) : funT Tryz.prog R L Tryz.f133 g133A [.v] = g133 R L := by kernel_rfl
/-- slices.Values[[]int,int] -/
def g134 (R : Idl.Callee) (L : Nat) : JT [.v] := fun (s1 : Value) (s2 : Heap) =>
  newO (mkRow [s1]) s2 fun id1 s3 =>
  some ((.func (.func 154) #[] #[(ptrTo id1)]), s3)
def g134A : Ann := (.s .d (.s .d .d))
theorem g134E (R : Idl.Callee) (L : Nat) : funT Tryz.prog R L Tryz.f134 g134A [.v] = g134 R L := by kernel_rfl
/-- incipit/induce.induced -/
def g135 (R : Idl.Callee) (L : Nat) : JT [.v, .v] := fun (text1 : Value) (firsts1 : Value) (s1 : Heap) =>
  lenV text1 fun n1 =>
  cndT (cmpI .eql n1 1) (newO (mkRow [(.int .i64 0)]) s1 fun id1 s2 =>
  some ((.slice (some ⟨id1, 0, none⟩) 1 1), s2)) ((callJ [.v, .i .i64] R (.fn 152 #[text1]) s1 fun (r1 : Value) (r2 : Int) (s3 : Heap) =>
  newO (mkRow [(.int .i64 (-1))]) s3 fun id2 s4 =>
  lenV text1 fun n2 =>
  (callJ [.v] R (.fn 155 #[(.slice (some ⟨id2, 0, none⟩) 1 1), .int .i64 n2]) s4 fun (r3 : Value) (s5 : Heap) =>
  newO (mkRow [text1, r1, r3]) s5 fun id3 s6 =>
  (callJ [] R (.fn 156 #[(ptrTo id3), firsts1]) s6 fun (s7 : Heap) =>
  (callJ [] R (.fn 157 #[(ptrTo id3)]) s7 fun (s8 : Heap) =>
  (callJ [] R (.fn 158 #[(ptrTo id3)]) s8 fun (s9 : Heap) =>
  (callJ [] R (.fn 159 #[(ptrTo id3)]) s9 fun (s10 : Heap) =>
  nchk (ptrTo id3) fun p1 =>
  fldP p1 2 fun p2 =>
  ldV p2 s10 fun t1 =>
  some (t1, s10))))))))
def g135A : Ann := (.s .d (.s (.s .d (.c (.s .d .d) .d)) (.s .d (.s .d (.s .d (.s .d (.s .d (.s .d (.s .d .d)))))))))
theorem g135E (R : Idl.Callee) (L : Nat) : funT Tryz.prog R L Tryz.f135 g135A [.v, .v] = g135 R L := by kernel_rfl
end
end Go.Proofs.YtpddlhbhpncfaaaGreat
