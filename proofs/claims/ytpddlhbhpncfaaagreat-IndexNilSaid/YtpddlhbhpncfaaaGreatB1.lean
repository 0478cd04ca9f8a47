/- Typed forms of functions, printed by a program of our own. -/
import Derived.Test.YtpddlhbhpncfaaaGreatProg
import Derived.KernelRfl
import Derived.Test.YtpddlhbhpncfaaaGreatIa5
namespace Go.Proofs.YtpddlhbhpncfaaaGreat
open Go Go.Idl
set_option linter.unusedVariables false
noncomputable section
/-- slices.SortFunc[[]incipit/index.Hit,incipit/index.Hit] -/
def g18 (R : Idl.Callee) (L : Nat) : JT [.v, .v] := fun (x1 : Value) (cmp1 : Value) (s1 : Heap) =>
  lenV x1 fun n1 =>
  bdI (wr .u64 n1) fun t1 =>
  (callJ [.i .i64] R (.fn 40 #[.int .u64 t1]) s1 fun (r1 : Int) (s2 : Heap) =>
  (callJ [] R (.fn 39 #[x1, .int .i64 0, .int .i64 n1, .int .i64 r1, cmp1]) s2 fun (s3 : Heap) =>
  some ((.tuple #[]), s3)))
def g18A : Ann := (.s .d .d)
theorem g18E (R : Idl.Callee) (L : Nat) : funT Tryz.prog R L Tryz.f18 g18A [.v, .v] = g18 R L := by kernel_rfl
/-- incipit/index.compare -/
def g19 (R : Idl.Callee) (L : Nat) : JT [.a 2, .a 2] := fun (a1 : List Value) (b1 : List Value) (s1 : Heap) =>
  newO (mkRow a1) s1 fun id1 s2 =>
  newO (mkRow b1) s2 fun id2 s3 =>
  heH 13 s3 fun base1 s4 =>
  fldP (ptrTo id1) 0 fun p1 =>
  ldI .i64 p1 s4 fun t1 =>
  fldP (ptrTo id2) 0 fun p2 =>
  ldI .i64 p2 s4 fun t2 =>
  (callJ [.i .i64] R (.fn 42 #[.int .i64 t1, .int .i64 t2]) s4 fun (r1 : Int) (s5 : Heap) =>
  fldP (ptrTo id1) 1 fun p3 =>
  ldI .i64 p3 s4 fun t3 =>
  ldI .i64 p3 s5 fun t4 =>
  cndT (sameTV (.i .i64 t4) (.i .i64 t3)) (fldP (ptrTo id2) 1 fun p4 =>
  ldI .i64 p4 s4 fun t5 =>
  ldI .i64 p4 s5 fun t6 =>
  cndT (sameTV (.i .i64 t6) (.i .i64 t5)) ((callJ [.i .i64] R (.fn 42 #[.int .i64 t3, .int .i64 t5]) s5 fun (r2 : Int) (s6 : Heap) =>
  puO base1 [(10, (mkRow [(.int .i64 r1), (.int .i64 r2)]))] s6 fun s7 =>
  (callJ [.i .i64] R (.fn 41 #[(.slice (some ⟨(Nat.add base1 10), 0, none⟩) 2 2)]) s7 fun (r3 : Int) (s8 : Heap) =>
  some (.int .i64 r3, s8)))) (none)) (none))
def g19A : Ann := (.s .d (.s .d .d))
theorem g19E (R : Idl.Callee) (L : Nat) : funT Tryz.prog R L Tryz.f19 g19A [.a 2, .a 2] = g19 R L := by kernel_rfl
/-- (*incipit/docs.List).Start -/
def g20 (R : Idl.Callee) (L : Nat) : JT [.v, .i .i64] := fun (l1 : Value) (doc1 : Int) (s1 : Heap) =>
  (callJ [.i .i64] R (.fn 43 #[l1, .int .i64 doc1]) s1 fun (r1 : Int) (s2 : Heap) =>
  cndT (cmpI .neq r1 0) (some ((.tuple #[.int .i64 0, .int .i64 r1]), s2)) (nchk l1 fun p1 =>
  fldP p1 0 fun p2 =>
  ldV p2 s2 fun t1 =>
  idxS 1 t1 doc1 fun p3 =>
  ldI .i64 p3 s2 fun t2 =>
  some ((.tuple #[.int .i64 t2, .int .i64 0]), s2)))
def g20A : Ann := (.s .d (.s (.s .d (.s .d (.c (.s .d .d) .d))) (.s .d .d)))
theorem g20E (R : Idl.Callee) (L : Nat) : funT Tryz.prog R L Tryz.f20 g20A [.v, .i .i64] = g20 R L := by kernel_rfl
/-- (*incipit/sample.Samples).Read -/
def g21 (R : Idl.Callee) (L : Nat) : JT [.v, .v, .i .i64, .i .i64] := fun (s1 : Value) (x1 : Value) (fromq1 : Int) (to1 : Int) (s2 : Heap) =>
  newO (mkRow [(.int .i64 fromq1)]) s2 fun id1 s3 =>
  newO (mkRow [(.int .i64 to1)]) s3 fun id2 s4 =>
  ldI .i64 (ptrTo id1) s4 fun t1 =>
  ldI .i64 (ptrTo id2) s4 fun t2 =>
  (callJ [.i .i64] R (.fn 35 #[s1, x1, .int .i64 t1, .int .i64 t2]) s4 fun (r1 : Int) (s5 : Heap) =>
  cndT (cmpI .neq r1 0) (some ((.tuple #[(.slice none 0 0), .int .i64 r1]), s5)) (ldI .i64 (ptrTo id2) s5 fun t3 =>
  ldI .i64 (ptrTo id1) s5 fun t4 =>
  arI .sub .i64 t3 t4 fun t5 =>
  mslT [.int .i64 0] 1 8 t5 t5 fun ob1 len1 cap1 =>
  newO ob1 s5 fun id3 s6 =>
  newO (mkRow [.slice none 0 0]) s6 fun id4 s7 =>
  stN 1 (ptrTo id4) [(.slice (some ⟨id3, 0, none⟩) len1 cap1)] s7 fun s8 =>
  (callJ [.i .i64] R (.fn 44 #[s1]) s8 fun (r2 : Int) (s9 : Heap) =>
  arI .sub .i64 r2 1 fun t6 =>
  joinK (fun (x2 : Value) (fromq2 : Value) (to2 : Value) (out1 : Value) (place1 : Int) (atq1 : Int) (s10 : Heap) =>
  (callJ [.i .i64, .i .i64] R (.fn 47 #[x2, .int .i64 atq1]) s10 fun (r3 : Int) (r4 : Int) (s11 : Heap) =>
  fnOf (.func (.func 46) #[] #[fromq2, to2, out1]) [.int .i64 place1, .int .i64 r3] fun tg1 =>
  (callJ [] R tg1 s11 fun (s12 : Heap) =>
  loopN (botJ [.v, .v, .v, .i .i64, .i .i64, .v]) (fun self1 => fun (x3 : Value) (fromq3 : Value) (out2 : Value) (place2 : Int) (atq2 : Int) (put1 : Value) (s13 : Heap) =>
  ldI .i64 fromq3 s13 fun t7 =>
  cndT (cmpI .gtr place2 t7) ((callJ [.i .i64, .i .i64, .i .i64] R (.fn 48 #[x3, .int .i64 atq2]) s13 fun (r5 : Int) (r6 : Int) (r7 : Int) (s14 : Heap) =>
  arI .sub .i64 place2 1 fun t8 =>
  fnOf put1 [.int .i64 t8, .int .i64 r5] fun tg2 =>
  (callJ [] R tg2 s14 fun (s15 : Heap) =>
  self1 x3 fromq3 out2 t8 r6 put1 s15))) (ldV out2 s13 fun t9 =>
  some ((.tuple #[t9, .int .i64 0]), s13))) L x2 fromq2 out1 place1 atq1 (.func (.func 46) #[] #[fromq2, to2, out1]) s12))) fun J1 =>
  heH 18 s9 fun base1 s16 =>
  ldI .i64 (ptrTo id2) s16 fun t10 =>
  nchk s1 fun p1 =>
  fldP p1 0 fun p2 =>
  ldI .i64 p2 s16 fun t11 =>
  arI .add .i64 t10 t11 fun t12 =>
  arI .sub .i64 t12 1 fun t13 =>
  nchk s1 fun p3 =>
  fldP p3 0 fun p4 =>
  ldI .i64 p4 s16 fun t14 =>
  arI .quo .i64 t13 t14 fun t15 =>
  nchk s1 fun p5 =>
  fldP p5 0 fun p6 =>
  ldI .i64 p6 s16 fun t16 =>
  arI .mul .i64 t15 t16 fun t17 =>
  (callJ [.i .i64] R (.fn 44 #[s1]) s16 fun (r8 : Int) (s17 : Heap) =>
  cndT (cmpI .lss t17 r8) ((callJ [.i .i64, .i .i64] R (.fn 45 #[s1, .int .i64 t17]) s17 fun (r9 : Int) (r10 : Int) (s18 : Heap) =>
  J1 x1 (ptrTo id1) (ptrTo id2) (ptrTo id4) t17 r9 s18)) (J1 x1 (ptrTo id1) (ptrTo id2) (ptrTo id4) t6 0 s17)))))
def g21A : Ann := (.s .d (.s (.s .d (.s .d (.c (.s .d .d) .d))) (.s .d (.s .d (.j [(1, .v), (6, .v), (7, .v), (11, .v), (12, .i .i64), (13, .i .i64)] (.s .d (.s .d (.c (.s .d .d) .d))) (.s .d (.s .d (.s .d (.s (.b (.l [(1, .v), (6, .v), (11, .v), (12, .i .i64), (13, .i .i64), (15, .v)] (.s (.s .d (.c .d .d)) (.b (.s .d (.s .d (.s .d .d))))))) (.s .d .d))))))))))
theorem g21E (R : Idl.Callee) (L : Nat) : funT Tryz.prog R L Tryz.f21 g21A [.v, .v, .i .i64, .i .i64] = g21 R L := by kernel_rfl
/-- (*incipit/index.Index).Extract$1 -/
def g22 (R : Idl.Callee) (L : Nat) : JT [.i .i64] := fun (s1 : Int) (s2 : Heap) =>
  some (.bool (cmpI .lss s1 2), s2)
def g22A : Ann := (.s .d (.s .d .d))
theorem g22E (R : Idl.Callee) (L : Nat) : funT Tryz.prog R L Tryz.f22 g22A [.i .i64] = g22 R L := by kernel_rfl
/-- slices.ContainsFunc[[]int,int] -/
def g23 (R : Idl.Callee) (L : Nat) : JT [.v, .v] := fun (s1 : Value) (f1 : Value) (s2 : Heap) =>
  (callJ [.i .i64] R (.fn 49 #[s1, f1]) s2 fun (r1 : Int) (s3 : Heap) =>
  some (.bool (cmpI .geq r1 0), s3))
def g23A : Ann := (.s .d (.s .d .d))
theorem g23E (R : Idl.Callee) (L : Nat) : funT Tryz.prog R L Tryz.f23 g23A [.v, .v] = g23 R L := by kernel_rfl
/-- (*incipit/docs.List).Size -/
def g24 (R : Idl.Callee) (L : Nat) : JT [.v, .i .i64] := fun (l1 : Value) (doc1 : Int) (s1 : Heap) =>
  (callJ [.i .i64] R (.fn 43 #[l1, .int .i64 doc1]) s1 fun (r1 : Int) (s2 : Heap) =>
  cndT (cmpI .neq r1 0) (some ((.tuple #[.int .i64 0, .int .i64 r1]), s2)) (nchk l1 fun p1 =>
  fldP p1 1 fun p2 =>
  ldV p2 s2 fun t1 =>
  idxS 1 t1 doc1 fun p3 =>
  ldI .i64 p3 s2 fun t2 =>
  some ((.tuple #[.int .i64 t2, .int .i64 0]), s2)))
def g24A : Ann := (.s .d (.s (.s .d (.s .d (.c (.s .d .d) .d))) (.s .d .d)))
theorem g24E (R : Idl.Callee) (L : Nat) : funT Tryz.prog R L Tryz.f24 g24A [.v, .i .i64] = g24 R L := by kernel_rfl
/-- incipit/index.Build -/
def g25 (R : Idl.Callee) (L : Nat) : JT [.v] := fun (all1 : Value) (s1 : Heap) =>
  (callJ [.v, .i .i64] R (.fn 50 #[all1]) s1 fun (r1 : Value) (r2 : Int) (s2 : Heap) =>
  cndT (cmpI .neq r2 0) (some ((.tuple #[(.pointer none), .int .i64 r2]), s2)) ((callJ [.v, .i .i64] R (.fn 51 #[all1]) s2 fun (r3 : Value) (r4 : Int) (s3 : Heap) =>
  (callJ [.v, .i .i64] R (.fn 52 #[r3]) s3 fun (r5 : Value) (r6 : Int) (s4 : Heap) =>
  cndT (cmpI .neq r6 0) (some ((.tuple #[(.pointer none), .int .i64 r6]), s4)) ((callJ [.v, .i .i64] R (.fn 53 #[r3, r5, all1]) s4 fun (r7 : Value) (r8 : Int) (s5 : Heap) =>
  some ((.tuple #[r7, .int .i64 r8]), s5)))))))
def g25A : Ann := (.s .d (.s (.s .d (.s .d (.c (.s .d .d) .d))) (.s .d (.s .d (.s (.s .d (.c (.s .d .d) .d)) (.s .d .d))))))
theorem g25E (R : Idl.Callee) (L : Nat) : funT Tryz.prog R L Tryz.f25 g25A [.v] = g25 R L := by kernel_rfl
/-- (*incipit/docs.List).Count -/
def g26 (R : Idl.Callee) (L : Nat) : JT [.v] := fun (l1 : Value) (s1 : Heap) =>
  nilT .p l1 (.pointer none) fun c1 =>
  cndT (flipB true c1) (some (.int .i64 0, s1)) (nchk l1 fun p1 =>
  fldP p1 1 fun p2 =>
  ldV p2 s1 fun t1 =>
  lenV t1 fun n1 =>
  some (.int .i64 n1, s1))
def g26A : Ann := (.s .d (.s (.s .d (.c (.s .d .d) .d)) (.s .d .d)))
theorem g26E (R : Idl.Callee) (L : Nat) : funT Tryz.prog R L Tryz.f26 g26A [.v] = g26 R L := by kernel_rfl
/-- (*incipit/search.Index).Bytes -/
def g27 (R : Idl.Callee) (L : Nat) : JT [.v] := fun (x1 : Value) (s1 : Heap) =>
  nilT .p x1 (.pointer none) fun c1 =>
  cndT (flipB true c1) (some ((.slice none 0 0), s1)) (heH 13 s1 fun base1 s2 =>
  nchk x1 fun p1 =>
  fldP p1 0 fun p2 =>
  ldV p2 s2 fun t1 =>
  (callJ [.v] R (.fn 55 #[t1]) s2 fun (r1 : Value) (s3 : Heap) =>
  nchk x1 fun p3 =>
  fldP p3 1 fun p4 =>
  ldV p4 s2 fun t2 =>
  ldV p4 s3 fun t3 =>
  cndT (sameTV (.v t3) (.v t2)) ((callJ [.v] R (.fn 56 #[t2]) s3 fun (r2 : Value) (s4 : Heap) =>
  puO base1 [(10, (mkRow [r1, r2]))] s4 fun s5 =>
  (callJ [.v] R (.fn 54 #[(.slice (some ⟨(Nat.add base1 10), 0, none⟩) 2 2)]) s5 fun (r3 : Value) (s6 : Heap) =>
  some (r3, s6)))) (none)))
def g27A : Ann := (.s .d (.s (.s .d (.c (.s .d .d) .d)) (.s .d .d)))
theorem g27E (R : Idl.Callee) (L : Nat) : funT Tryz.prog R L Tryz.f27 g27A [.v] = g27 R L := by kernel_rfl
/-- (*incipit/sample.Samples).Bytes -/
def g28 (R : Idl.Callee) (L : Nat) : JT [.v] := fun (s1 : Value) (s2 : Heap) =>
  nilT .p s1 (.pointer none) fun c1 =>
  cndT (flipB true c1) (some ((.slice none 0 0), s2)) (heH 24 s2 fun base1 s3 =>
  nchk s1 fun p1 =>
  fldP p1 0 fun p2 =>
  ldI .i64 p2 s3 fun t1 =>
  puO base1 [(4, (mkRow [(.int .i64 t1)]))] s3 fun s4 =>
  (callJ [.v] R (.fn 57 #[(.slice (some ⟨(Nat.add base1 4), 0, none⟩) 1 1)]) s4 fun (r1 : Value) (s5 : Heap) =>
  nchk s1 fun p3 =>
  fldP p3 1 fun p4 =>
  ldV p4 s3 fun t2 =>
  ldV p4 s5 fun t3 =>
  cndT (sameTV (.v t3) (.v t2)) ((callJ [.v] R (.fn 58 #[t2]) s5 fun (r2 : Value) (s6 : Heap) =>
  nchk s1 fun p5 =>
  fldP p5 2 fun p6 =>
  ldV p6 s3 fun t4 =>
  ldV p6 s5 fun t5 =>
  cndT (sameTV (.v t5) (.v t4)) (ldV p6 s6 fun t6 =>
  cndT (sameTV (.v t6) (.v t4)) ((callJ [.v] R (.fn 59 #[t4]) s6 fun (r3 : Value) (s7 : Heap) =>
  nchk s1 fun p7 =>
  fldP p7 3 fun p8 =>
  ldV p8 s3 fun t7 =>
  ldV p8 s5 fun t8 =>
  cndT (sameTV (.v t8) (.v t7)) (ldV p8 s6 fun t9 =>
  cndT (sameTV (.v t9) (.v t7)) (ldV p8 s7 fun t10 =>
  cndT (sameTV (.v t10) (.v t7)) ((callJ [.v] R (.fn 59 #[t7]) s7 fun (r4 : Value) (s8 : Heap) =>
  puO base1 [(21, (mkRow [r1, r2, r3, r4]))] s8 fun s9 =>
  (callJ [.v] R (.fn 54 #[(.slice (some ⟨(Nat.add base1 21), 0, none⟩) 4 4)]) s9 fun (r5 : Value) (s10 : Heap) =>
  some (r5, s10)))) (none)) (none)) (none))) (none)) (none))) (none)))
def g28A : Ann := (.s .d (.s (.s .d (.c (.s .d .d) .d)) (.s .d .d)))
theorem g28E (R : Idl.Callee) (L : Nat) : funT Tryz.prog R L Tryz.f28 g28A [.v] = g28 R L := by kernel_rfl
/-- (*incipit/docs.List).Bytes -/
def g29 (R : Idl.Callee) (L : Nat) : JT [.v] := fun (l1 : Value) (s1 : Heap) =>
  nilT .p l1 (.pointer none) fun c1 =>
  cndT (flipB true c1) (some ((.slice none 0 0), s1)) (nchk l1 fun p1 =>
  fldP p1 1 fun p2 =>
  ldV p2 s1 fun t1 =>
  (callJ [.v] R (.fn 60 #[t1]) s1 fun (r1 : Value) (s2 : Heap) =>
  some (r1, s2)))
def g29A : Ann := (.s .d (.s (.s .d (.c (.s .d .d) .d)) (.s .d .d)))
theorem g29E (R : Idl.Callee) (L : Nat) : funT Tryz.prog R L Tryz.f29 g29A [.v] = g29 R L := by kernel_rfl
/-- slices.Index[[]int,int] -/
def g30 (R : Idl.Callee) (L : Nat) : JT [.v, .i .i64] := fun (s1 : Value) (v1 : Int) (s2 : Heap) =>
  lenV s1 fun n1 =>
  loopN (botJ [.v, .i .i64, .i .i64, .i .i64]) (fun self1 => fun (s3 : Value) (v2 : Int) (t1 : Int) (t2 : Int) (s4 : Heap) =>
  cndT (cmpI .lss t2 t1) (idxS 1 s3 t2 fun p1 =>
  ldI .i64 p1 s4 fun t3 =>
  cndT (cmpI .eql v2 t3) (some (.int .i64 t2, s4)) (arI .add .i64 t2 1 fun t4 =>
  self1 s3 v2 t1 t4 s4)) (some (.int .i64 (-1), s4))) L s1 v1 n1 0 s2
def g30A : Ann := (.s .d (.s (.s .d (.b (.l [(0, .v), (1, .i .i64), (7, .i .i64), (8, .i .i64)] (.s .d (.s (.c .d .d) (.s (.b (.s .d (.s .d (.c (.s .d .d) .d)))) .d)))))) (.s .d .d)))
theorem g30E (R : Idl.Callee) (L : Nat) : funT Tryz.prog R L Tryz.f30 g30A [.v, .i .i64] = g30 R L := by kernel_rfl
/-- (*incipit/search.Index).Len -/
def g31 (R : Idl.Callee) (L : Nat) : JT [.v] := fun (x1 : Value) (s1 : Heap) =>
  nilT .p x1 (.pointer none) fun c1 =>
  cndT (flipB true c1) (some (.int .i64 0, s1)) (nchk x1 fun p1 =>
  fldP p1 1 fun p2 =>
  ldV p2 s1 fun t1 =>
  (callJ [.i .i64] R (.fn 61 #[t1]) s1 fun (r1 : Int) (s2 : Heap) =>
  some (.int .i64 r1, s2)))
def g31A : Ann := (.s .d (.s (.s .d (.c (.s .d .d) .d)) (.s .d .d)))
theorem g31E (R : Idl.Callee) (L : Nat) : funT Tryz.prog R L Tryz.f31 g31A [.v] = g31 R L := by kernel_rfl
/-- slices.Backward[[]int,int] -/
def g32 (R : Idl.Callee) (L : Nat) : JT [.v] := fun (s1 : Value) (s2 : Heap) =>
  newO (mkRow [s1]) s2 fun id1 s3 =>
  some ((.func (.func 62) #[] #[(ptrTo id1)]), s3)
def g32A : Ann := (.s .d (.s .d .d))
theorem g32E (R : Idl.Callee) (L : Nat) : funT Tryz.prog R L Tryz.f32 g32A [.v] = g32 R L := by kernel_rfl
end
end Go.Proofs.YtpddlhbhpncfaaaGreat
