/- Typed forms of functions, printed by a program of our own. -/
import Derived.Test.YtpddlhbhpncfaaaGreatProg
import Derived.KernelRfl
import Derived.Test.YtpddlhbhpncfaaaGreatIa5
namespace Go.Proofs.YtpddlhbhpncfaaaGreat
open Go Go.Idl
set_option linter.unusedVariables false
noncomputable section
/-- incipit/rank.empty -/
def g167 (R : Idl.Callee) (L : Nat) : JT [.i .i64] := fun (n1 : Int) (s1 : Heap) =>
  arI .add .i64 n1 64 fun t1 =>
  arI .sub .i64 t1 1 fun t2 =>
  arI .quo .i64 t2 64 fun t3 =>
  mslT [.int .u64 0] 1 8 t3 t3 fun ob1 len1 cap1 =>
  newO ob1 s1 fun id1 s2 =>
  newO (mkRow [(.int .i64 n1), (.slice (some ⟨id1, 0, none⟩) len1 cap1), .int .u32 0, .int .i32 0, .int .u32 0, .slice none 0 0, .slice none 0 0]) s2 fun id2 s3 =>
  some ((ptrTo id2), s3)
def g167A : Ann := (.s .d (.s .d .d))
theorem g167E (R : Idl.Callee) (L : Nat) : funT Tryz.prog R L Tryz.f167 g167A [.i .i64] = g167 R L := by kernel_rfl
/-- (*incipit/rank.Row).put -/
def g168 (R : Idl.Callee) (L : Nat) : JT [.v, .i .i64] := fun (r1 : Value) (i1 : Int) (s1 : Heap) =>
  heH 14 s1 fun base1 s2 =>
  nchk r1 fun p1 =>
  fldP p1 1 fun p2 =>
  ldV p2 s2 fun t1 =>
  arI .quo .i64 i1 64 fun t2 =>
  idxS 1 t1 t2 fun p3 =>
  ldI .u64 p3 s2 fun t3 =>
  arI .rem .i64 i1 64 fun t4 =>
  arI .shl .u64 1 t4 fun t5 =>
  arI .or .u64 t3 t5 fun t6 =>
  idxS 1 t1 t2 fun p4 =>
  stN 1 p4 [(.int .u64 t6)] s2 fun s3 =>
  some ((.tuple #[]), s3)
def g168A : Ann := .d
theorem g168E (R : Idl.Callee) (L : Nat) : funT Tryz.prog R L Tryz.f168 g168A [.v, .i .i64] = g168 R L := by kernel_rfl
/-- incipit/packed.fits -/
def g169 (R : Idl.Callee) (L : Nat) : JT [.i .i64, .v] := fun (width1 : Int) (l1 : Value) (s1 : Heap) =>
  newO (mkRow [(.int .i64 width1)]) s1 fun id1 s2 =>
  (callJ [.b] R (.fn 23 #[l1, (.func (.func 186) #[] #[(ptrTo id1)])]) s2 fun (r1 : Bool) (s3 : Heap) =>
  some (.bool (!r1), s3))
def g169A : Ann := (.s .d (.s .d .d))
theorem g169E (R : Idl.Callee) (L : Nat) : funT Tryz.prog R L Tryz.f169 g169A [.i .i64, .v] = g169 R L := by kernel_rfl
/-- incipit/packed.New -/
def g170 (R : Idl.Callee) (L : Nat) : JT [.i .i64, .v] := fun (width1 : Int) (l1 : Value) (s1 : Heap) =>
  (callJ [.b] R (.fn 143 #[.int .i64 width1]) s1 fun (r1 : Bool) (s2 : Heap) =>
  cndT (!r1) (some ((.tuple #[(.pointer none), .int .i64 1]), s2)) (newO (mkRow [(.int .i64 width1), .int .i64 0, .slice none 0 0]) s2 fun id1 s3 =>
  (callJ [.i .i64] R (.fn 187 #[(ptrTo id1), l1]) s3 fun (r2 : Int) (s4 : Heap) =>
  cndT (cmpI .neq r2 0) (some ((.tuple #[(.pointer none), .int .i64 r2]), s4)) (some ((.tuple #[(ptrTo id1), .int .i64 0]), s4)))))
def g170A : Ann := (.s .d (.s (.s .d (.c (.s .d .d) .d)) (.s .d (.s (.s .d (.s .d (.c (.s .d .d) .d))) (.s .d .d)))))
theorem g170E (R : Idl.Callee) (L : Nat) : funT Tryz.prog R L Tryz.f170 g170A [.i .i64, .v] = g170 R L := by kernel_rfl
/-- (*incipit/rank.Row).ready -/
def g171 (R : Idl.Callee) (L : Nat) : JT [.v] := fun (r1 : Value) (s1 : Heap) =>
  newO (mkRow [r1]) s1 fun id1 s2 =>
  newO (mkRow [.slice none 0 0, .slice none 0 0]) s2 fun id2 s3 =>
  ldV (ptrTo id1) s3 fun t1 =>
  nchk t1 fun p1 =>
  fldP p1 2 fun p2 =>
  (callJ [] R (.fn 188 #[p2, (.func (.func 189) #[] #[(ptrTo id1)])]) s3 fun (s4 : Heap) =>
  ldV (ptrTo id1) s4 fun t2 =>
  nchk t2 fun p3 =>
  fldP p3 5 fun p4 =>
  ldG 2 p4 s4 fun t3 =>
  stN 2 (ptrTo id2) t3 s4 fun s5 =>
  ldG 2 (ptrTo id2) s5 fun res1 =>
  some (.agg res1.toArray, s5))
def g171A : Ann := (.s .d (.s .d (.s .d .d)))
theorem g171E (R : Idl.Callee) (L : Nat) : funT Tryz.prog R L Tryz.f171 g171A [.v] = g171 R L := by kernel_rfl
/-- math/bits.OnesCount64 -/
def g172 (R : Idl.Callee) (L : Nat) : JT [.i .u64] := fun (x1 : Int) (s1 : Heap) =>
  arI .shr .u64 x1 1 fun t1 =>
  arI .and .u64 t1 6148914691236517205 fun t2 =>
  arI .and .u64 x1 6148914691236517205 fun t3 =>
  arI .add .u64 t2 t3 fun t4 =>
  arI .shr .u64 t4 2 fun t5 =>
  arI .and .u64 t5 3689348814741910323 fun t6 =>
  arI .and .u64 t4 3689348814741910323 fun t7 =>
  arI .add .u64 t6 t7 fun t8 =>
  arI .shr .u64 t8 4 fun t9 =>
  arI .add .u64 t9 t8 fun t10 =>
  arI .and .u64 t10 1085102592571150095 fun t11 =>
  arI .shr .u64 t11 8 fun t12 =>
  arI .add .u64 t11 t12 fun t13 =>
  arI .shr .u64 t13 16 fun t14 =>
  arI .add .u64 t13 t14 fun t15 =>
  arI .shr .u64 t15 32 fun t16 =>
  arI .add .u64 t15 t16 fun t17 =>
  bdI (wr .i64 t17) fun t18 =>
  arI .and .i64 t18 127 fun t19 =>
  some (.int .i64 t19, s1)
def g172A : Ann := (.s .d (.s .d (.s .d (.s .d (.s .d (.s .d (.s .d (.s .d .d))))))))
theorem g172E (R : Idl.Callee) (L : Nat) : funT Tryz.prog R L Tryz.f172 g172A [.i .u64] = g172 R L := by kernel_rfl
/-- slices.order2Ordered[int] -/
def g173 (R : Idl.Callee) (L : Nat) : JT [.v, .i .i64, .i .i64, .v] := fun (data1 : Value) (a1 : Int) (b1 : Int) (swaps1 : Value) (s1 : Heap) =>
  heH 9 s1 fun base1 s2 =>
  idxS 1 data1 b1 fun p1 =>
  ldI .i64 p1 s2 fun t1 =>
  idxS 1 data1 a1 fun p2 =>
  ldI .i64 p2 s2 fun t2 =>
  (callJ [.b] R (.fn 103 #[.int .i64 t1, .int .i64 t2]) s2 fun (r1 : Bool) (s3 : Heap) =>
  cndT r1 (nchk swaps1 fun p3 =>
  ldI .i64 p3 s3 fun t3 =>
  arI .add .i64 t3 1 fun t4 =>
  nchk swaps1 fun p4 =>
  stN 1 p4 [(.int .i64 t4)] s3 fun s4 =>
  some ((.tuple #[.int .i64 b1, .int .i64 a1]), s4)) (some ((.tuple #[.int .i64 a1, .int .i64 b1]), s3)))
def g173A : Ann := (.s .d (.s (.s .d (.c (.s .d (.s .d .d)) .d)) (.s .d .d)))
theorem g173E (R : Idl.Callee) (L : Nat) : funT Tryz.prog R L Tryz.f173 g173A [.v, .i .i64, .i .i64, .v] = g173 R L := by kernel_rfl
/-- incipit/induce.pieces -/
def g174 (R : Idl.Callee) (L : Nat) : JT [.v] := fun (text1 : Value) (s1 : Heap) =>
  (callJ [.v, .i .i64] R (.fn 132 #[text1]) s1 fun (r1 : Value) (r2 : Int) (s2 : Heap) =>
  newO (.map []) s2 fun id1 s3 =>
  lenV r1 fun n1 =>
  loopN (botJ [.v, .v, .v, .v, .i .i64, .i .i64]) (fun self1 => fun (text2 : Value) (l1 : Value) (out1 : Value) (t1 : Value) (t2 : Int) (t3 : Int) (s4 : Heap) =>
  cndT (cmpI .lss t3 t2) (idxS 1 t1 t3 fun p1 =>
  ldI .i64 p1 s4 fun t4 =>
  lenV text2 fun n2 =>
  joinK (fun (text3 : Value) (l2 : Value) (out2 : Value) (i1 : Int) (to1 : Int) (t5 : Value) (t6 : Int) (t7 : Int) (s5 : Heap) =>
  slcV 1 text3 (some i1) (some to1) (some to1) fun t8 =>
  byH (mapUpdA Tryz.prog s5 209 out2 (.int .i64 i1) (t8)) fun s6 =>
  arI .add .i64 t7 1 fun t9 =>
  self1 text3 l2 out2 t5 t6 t9 s6) fun J1 =>
  arI .add .i64 t3 1 fun t10 =>
  lenV l1 fun n3 =>
  cndT (cmpI .lss t10 n3) (arI .add .i64 t3 1 fun t11 =>
  idxS 1 l1 t11 fun p2 =>
  ldI .i64 p2 s4 fun t12 =>
  arI .add .i64 t12 1 fun t13 =>
  J1 text2 l1 out1 t4 t13 t1 t2 t3 s4) (J1 text2 l1 out1 t4 n2 t1 t2 t3 s4)) (some (out1, s4))) L text1 r1 (.map (some id1)) r1 n1 0 s3)
def g174A : Ann := (.s .d (.s .d (.s .d (.s (.s .d (.b (.l [(0, .v), (3, .v), (5, .v), (15, .v), (16, .i .i64), (17, .i .i64)] (.s .d (.s (.c .d .d) (.s (.b (.s .d (.s .d (.j [(0, .v), (3, .v), (5, .v), (7, .i .i64), (8, .i .i64), (15, .v), (16, .i .i64), (17, .i .i64)] (.s .d (.c .d .d)) .d)))) .d)))))) (.s .d .d)))))
theorem g174E (R : Idl.Callee) (L : Nat) : funT Tryz.prog R L Tryz.f174 g174A [.v] = g174 R L := by kernel_rfl
/-- incipit/suffix.kinds -/
def g175 (R : Idl.Callee) (L : Nat) : JT [.v] := fun (text1 : Value) (s1 : Heap) =>
  lenV text1 fun n1 =>
  mslT [.bool false] 1 1 n1 n1 fun ob1 len1 cap1 =>
  newO ob1 s1 fun id1 s2 =>
  lenV text1 fun n2 =>
  arI .sub .i64 n2 1 fun t1 =>
  loopN (botJ [.v, .v, .i .i64]) (fun self1 => fun (text2 : Value) (out1 : Value) (i1 : Int) (s3 : Heap) =>
  cndT (cmpI .geq i1 0) (joinK (fun (text3 : Value) (out2 : Value) (i2 : Int) (s4 : Heap) =>
  arI .sub .i64 i2 1 fun t2 =>
  self1 text3 out2 t2 s4) fun J1 =>
  heH 40 s3 fun base1 s5 =>
  lenV text2 fun n3 =>
  arI .sub .i64 n3 1 fun t3 =>
  cndT (cmpI .eql i1 t3) (idxS 1 out1 i1 fun p1 =>
  stN 1 p1 [(.bool true)] s5 fun s6 =>
  J1 text2 out1 i1 s6) (idxS 1 text2 i1 fun p2 =>
  ldI .i64 p2 s5 fun t4 =>
  arI .add .i64 i1 1 fun t5 =>
  idxS 1 text2 t5 fun p3 =>
  ldI .i64 p3 s5 fun t6 =>
  cndT (cmpI .lss t4 t6) (idxS 1 out1 i1 fun p4 =>
  stN 1 p4 [(.bool true)] s5 fun s7 =>
  J1 text2 out1 i1 s7) (idxS 1 text2 i1 fun p5 =>
  ldI .i64 p5 s5 fun t7 =>
  arI .add .i64 i1 1 fun t8 =>
  idxS 1 text2 t8 fun p6 =>
  ldI .i64 p6 s5 fun t9 =>
  cndT (cmpI .eql t7 t9) (arI .add .i64 i1 1 fun t10 =>
  idxS 1 out1 t10 fun p7 =>
  ldB p7 s5 fun t11 =>
  idxS 1 out1 i1 fun p8 =>
  stN 1 p8 [(.bool t11)] s5 fun s8 =>
  J1 text2 out1 i1 s8) (idxS 1 out1 i1 fun p9 =>
  stN 1 p9 [(.bool false)] s5 fun s9 =>
  J1 text2 out1 i1 s9)))) (some (out1, s3))) L text1 (.slice (some ⟨id1, 0, none⟩) len1 cap1) t1 s2
def g175A : Ann := (.s .d (.s .d (.s (.s .d (.b (.l [(0, .v), (3, .v), (4, .i .i64)] (.s (.s .d (.c .d .d)) (.j [(0, .v), (3, .v), (4, .i .i64)] (.b .d) .d))))) (.s .d .d))))
theorem g175E (R : Idl.Callee) (L : Nat) : funT Tryz.prog R L Tryz.f175 g175A [.v] = g175 R L := by kernel_rfl
/-- math/bits.Mul -/
def g177 (R : Idl.Callee) (L : Nat) : JT [.i .u64, .i .u64] := fun (x1 : Int) (y1 : Int) (s1 : Heap) =>
  (callJ [.i .u64, .i .u64] R (.fn 191 #[.int .u64 x1, .int .u64 y1]) s1 fun (r1 : Int) (r2 : Int) (s2 : Heap) =>
  some ((.tuple #[.int .u64 r1, .int .u64 r2]), s2))
def g177A : Ann := (.s .d (.s (.c .d .d) (.s .d (.s .d .d))))
theorem g177E (R : Idl.Callee) (L : Nat) : funT Tryz.prog R L Tryz.f177 g177A [.i .u64, .i .u64] = g177 R L := by kernel_rfl
/-- incipit/induce.buckets -/
def g178 (R : Idl.Callee) (L : Nat) : JT [.v] := fun (text1 : Value) (s1 : Heap) =>
  heH 10 s1 fun base1 s2 =>
  (callJ [.i .i64] R (.fn 192 #[text1]) s2 fun (r1 : Int) (s3 : Heap) =>
  (callJ [.i .i64] R (.fn 192 #[text1]) s3 fun (r2 : Int) (s4 : Heap) =>
  arI .add .i64 r1 1 fun t1 =>
  mslT [.int .i64 0] 1 8 t1 t1 fun ob1 len1 cap1 =>
  arI .add .i64 r2 1 fun t2 =>
  mslT [.int .i64 0] 1 8 t2 t2 fun ob2 len2 cap2 =>
  puO base1 [(3, ob1), (7, ob2)] s4 fun s5 =>
  lenV text1 fun n1 =>
  loopN (botJ [.v, .v, .v, .i .i64, .i .i64]) (fun self1 => fun (heads1 : Value) (tails1 : Value) (t3 : Value) (t4 : Int) (t5 : Int) (s6 : Heap) =>
  cndT (cmpI .lss t5 t4) (idxS 1 t3 t5 fun p1 =>
  ldI .i64 p1 s6 fun t6 =>
  idxS 1 tails1 t6 fun p2 =>
  ldI .i64 p2 s6 fun t7 =>
  arI .add .i64 t7 1 fun t8 =>
  idxS 1 tails1 t6 fun p3 =>
  stN 1 p3 [(.int .i64 t8)] s6 fun s7 =>
  arI .add .i64 t5 1 fun t9 =>
  self1 heads1 tails1 t3 t4 t9 s7) (lenV tails1 fun n2 =>
  loopN (botJ [.v, .v, .i .i64, .v, .i .i64, .i .i64]) (fun self2 => fun (heads2 : Value) (tails2 : Value) (atq1 : Int) (t10 : Value) (t11 : Int) (t12 : Int) (s8 : Heap) =>
  cndT (cmpI .lss t12 t11) (idxS 1 t10 t12 fun p4 =>
  ldI .i64 p4 s8 fun t13 =>
  idxS 1 heads2 t12 fun p5 =>
  stN 1 p5 [(.int .i64 atq1)] s8 fun s9 =>
  arI .add .i64 atq1 t13 fun t14 =>
  idxS 1 tails2 t12 fun p6 =>
  stN 1 p6 [(.int .i64 t14)] s9 fun s10 =>
  arI .add .i64 t12 1 fun t15 =>
  self2 heads2 tails2 t14 t10 t11 t15 s10) (some ((.tuple #[heads2, tails2]), s8))) L heads1 tails1 0 tails1 n2 0 s6)) L (.slice (some ⟨(Nat.add base1 3), 0, none⟩) len1 cap1) (.slice (some ⟨(Nat.add base1 7), 0, none⟩) len2 cap2) text1 n1 0 s5))
def g178A : Ann := (.s .d (.s .d (.s (.s .d (.b (.l [(2, .v), (3, .v), (17, .v), (18, .i .i64), (19, .i .i64)] (.s .d (.s (.c .d .d) (.s (.b (.s .d .d)) .d)))))) (.s .d (.s (.s .d (.b (.l [(2, .v), (3, .v), (6, .i .i64), (30, .v), (31, .i .i64), (32, .i .i64)] (.s .d (.s (.c .d .d) (.s (.b (.s .d (.s .d (.s .d .d)))) .d)))))) (.s .d .d))))))
theorem g178E (R : Idl.Callee) (L : Nat) : funT Tryz.prog R L Tryz.f178 g178A [.v] = g178 R L := by kernel_rfl
/-- (*incipit/induce.state).last -/
def g179 (R : Idl.Callee) (L : Nat) : JT [.v] := fun (s1 : Value) (s2 : Heap) =>
  nchk s1 fun p1 =>
  fldP p1 0 fun p2 =>
  ldV p2 s2 fun t1 =>
  lenV t1 fun n1 =>
  arI .sub .i64 n1 1 fun t2 =>
  some (.int .i64 t2, s2)
def g179A : Ann := (.s .d (.s .d .d))
theorem g179E (R : Idl.Callee) (L : Nat) : funT Tryz.prog R L Tryz.f179 g179A [.v] = g179 R L := by kernel_rfl
/-- incipit/wavelet.New$1 -/
def g180 (R : Idl.Callee) (L : Nat) : JT [.i .i64, .v] := fun (c1 : Int) (t1 : Value) (s1 : Heap) =>
  cndT (cmpI .lss c1 0) (some (.bool true, s1)) (ldI .i64 t1 s1 fun t2 =>
  arI .shr .i64 c1 t2 fun t3 =>
  some (.bool (cmpI .neq t3 0), s1))
def g180A : Ann := (.s .d (.s .d .d))
theorem g180E (R : Idl.Callee) (L : Nat) : funT Tryz.prog R L Tryz.f180 g180A [.i .i64, .v] = g180 R L := by kernel_rfl
/-- incipit/wavelet.New$2 -/
def g181 (R : Idl.Callee) (L : Nat) : JT [.i .i64, .v] := fun (c1 : Int) (t1 : Value) (s1 : Heap) =>
  ldI .i64 t1 s1 fun t2 =>
  arI .shr .i64 c1 t2 fun t3 =>
  arI .and .i64 t3 1 fun t4 =>
  some (.bool (cmpI .eql t4 1), s1)
def g181A : Ann := (.s .d (.s .d .d))
theorem g181E (R : Idl.Callee) (L : Nat) : funT Tryz.prog R L Tryz.f181 g181A [.i .i64, .v] = g181 R L := by kernel_rfl
/-- incipit/rank.New -/
def g182 (R : Idl.Callee) (L : Nat) : JT [.v] := fun (l1 : Value) (s1 : Heap) =>
  lenV l1 fun n1 =>
  cndT (cmpI .gtr n1 65536) (some ((.tuple #[(.pointer none), .int .i64 2]), s1)) (lenV l1 fun n2 =>
  (callJ [.v] R (.fn 167 #[.int .i64 n2]) s1 fun (r1 : Value) (s2 : Heap) =>
  lenV l1 fun n3 =>
  loopN (botJ [.v, .v, .i .i64, .i .i64]) (fun self1 => fun (r2 : Value) (t1 : Value) (t2 : Int) (t3 : Int) (s3 : Heap) =>
  cndT (cmpI .lss t3 t2) (joinK (fun (r3 : Value) (t4 : Value) (t5 : Int) (t6 : Int) (s4 : Heap) =>
  arI .add .i64 t6 1 fun t7 =>
  self1 r3 t4 t5 t7 s4) fun J1 =>
  idxS 1 t1 t3 fun p1 =>
  ldB p1 s3 fun t8 =>
  cndT t8 ((callJ [] R (.fn 168 #[r2, .int .i64 t3]) s3 fun (s5 : Heap) =>
  J1 r2 t1 t2 t3 s5)) (J1 r2 t1 t2 t3 s3)) (some ((.tuple #[r2, .int .i64 0]), s3))) L r1 l1 n3 0 s2))
def g182A : Ann := (.s .d (.s (.s .d (.c (.s .d .d) .d)) (.s .d (.s (.s .d (.b (.l [(4, .v), (13, .v), (14, .i .i64), (15, .i .i64)] (.s .d (.s (.c .d .d) (.j [(4, .v), (13, .v), (14, .i .i64), (15, .i .i64)] (.b (.s .d (.s .d (.c .d .d)))) .d)))))) (.s .d .d)))))
theorem g182E (R : Idl.Callee) (L : Nat) : funT Tryz.prog R L Tryz.f182 g182A [.v] = g182 R L := by kernel_rfl
end
end Go.Proofs.YtpddlhbhpncfaaaGreat
