/- Typed forms of functions, printed by a program of our own. -/
import Derived.Test.YtpddlhbhpncfaaaGreatProg
import Derived.KernelRfl
import Derived.Test.YtpddlhbhpncfaaaGreatIa5
namespace Go.Proofs.YtpddlhbhpncfaaaGreat
open Go Go.Idl
set_option linter.unusedVariables false
noncomputable section
/-- gosem.cut.init -/
def g2 (R : Idl.Callee) (L : Nat) : JT [] := fun (s1 : Heap) =>
  (callJ [] R (.fn 1 #[]) s1 fun (s2 : Heap) =>
  some ((.tuple #[]), s2))
def g2A : Ann := .d
theorem g2E (R : Idl.Callee) (L : Nat) : funT Tryz.prog R L Tryz.f2 g2A [] = g2 R L := by kernel_rfl
/-- incipit/incipitlaw24.IndexNil -/
def g3 (R : Idl.Callee) (L : Nat) : JT [.v, .i .i64] := fun (pattern1 : Value) (n1 : Int) (s1 : Heap) =>
  (callJ [.i .i64, .i .i64] R (.fn 4 #[(.pointer none), pattern1]) s1 fun (r1 : Int) (r2 : Int) (s2 : Heap) =>
  (callJ [.v, .i .i64] R (.fn 5 #[(.pointer none), pattern1]) s2 fun (r3 : Value) (r4 : Int) (s3 : Heap) =>
  (callJ [.v, .i .i64] R (.fn 6 #[(.pointer none), .int .i64 n1, .int .i64 n1, .int .i64 n1]) s3 fun (r5 : Value) (r6 : Int) (s4 : Heap) =>
  (callJ [.i .i64, .i .i64] R (.fn 7 #[(.pointer none), .int .i64 n1]) s4 fun (r7 : Int) (r8 : Int) (s5 : Heap) =>
  (callJ [.b] R (.fn 8 #[]) s5 fun (r9 : Bool) (s6 : Heap) =>
  cndT r9 (cndT (cmpI .eql r2 11) (cndT (cmpI .eql r4 11) (cndT (cmpI .eql r6 11) (cndT (cmpI .eql r8 11) ((callJ [.i .i64] R (.fn 9 #[(.pointer none)]) s6 fun (r10 : Int) (s7 : Heap) =>
  cndT (cmpI .eql r10 0) ((callJ [.i .i64] R (.fn 10 #[(.pointer none)]) s7 fun (r11 : Int) (s8 : Heap) =>
  cndT (cmpI .eql r11 0) ((callJ [.v] R (.fn 11 #[(.pointer none)]) s8 fun (r12 : Value) (s9 : Heap) =>
  lenV r12 fun n2 =>
  some (.bool (cmpI .eql n2 0), s9))) (some (.bool false, s8)))) (some (.bool false, s7)))) (some (.bool false, s6))) (some (.bool false, s6))) (some (.bool false, s6))) (some (.bool false, s6))) (some (.bool false, s6)))))))
def g3A : Ann := (.s .d (.s .d (.s .d (.s .d (.s .d (.s .d (.s .d .d)))))))
theorem g3E (R : Idl.Callee) (L : Nat) : funT Tryz.prog R L Tryz.f3 g3A [.v, .i .i64] = g3 R L := by kernel_rfl
/-- (*incipit/index.Index).Count -/
def g4 (R : Idl.Callee) (L : Nat) : JT [.v, .v] := fun (x1 : Value) (pattern1 : Value) (s1 : Heap) =>
  (callJ [.i .i64] R (.fn 12 #[x1, pattern1]) s1 fun (r1 : Int) (s2 : Heap) =>
  cndT (cmpI .neq r1 0) (some ((.tuple #[.int .i64 0, .int .i64 r1]), s2)) (heH 9 s2 fun base1 s3 =>
  (callJ [.v] R (.fn 14 #[pattern1]) s3 fun (r2 : Value) (s4 : Heap) =>
  nchk x1 fun p1 =>
  fldP p1 1 fun p2 =>
  ldV p2 s3 fun t1 =>
  ldV p2 s4 fun t2 =>
  cndT (sameTV (.v t2) (.v t1)) ((callJ [.i .i64] R (.fn 13 #[t1, r2]) s4 fun (r3 : Int) (s5 : Heap) =>
  some ((.tuple #[.int .i64 r3, .int .i64 0]), s5))) (none))))
def g4A : Ann := (.s .d (.s (.s .d (.s .d (.c (.s .d .d) .d))) (.s .d .d)))
theorem g4E (R : Idl.Callee) (L : Nat) : funT Tryz.prog R L Tryz.f4 g4A [.v, .v] = g4 R L := by kernel_rfl
/-- (*incipit/index.Index).Locate -/
def g5 (R : Idl.Callee) (L : Nat) : JT [.v, .v] := fun (x1 : Value) (pattern1 : Value) (s1 : Heap) =>
  (callJ [.i .i64] R (.fn 12 #[x1, pattern1]) s1 fun (r1 : Int) (s2 : Heap) =>
  cndT (cmpI .neq r1 0) (some ((.tuple #[(.slice none 0 0), .int .i64 r1]), s2)) (heH 14 s2 fun base1 s3 =>
  (callJ [.v] R (.fn 14 #[pattern1]) s3 fun (r2 : Value) (s4 : Heap) =>
  nchk x1 fun p1 =>
  fldP p1 1 fun p2 =>
  ldV p2 s3 fun t1 =>
  ldV p2 s4 fun t2 =>
  cndT (sameTV (.v t2) (.v t1)) ((callJ [.i .i64, .i .i64, .i .i64] R (.fn 15 #[t1, r2]) s4 fun (r3 : Int) (r4 : Int) (r5 : Int) (s5 : Heap) =>
  cndT (cmpI .eql r5 7) (some ((.tuple #[(.slice none 0 0), .int .i64 0]), s5)) (heH 16 s5 fun base2 s6 =>
  nchk x1 fun p3 =>
  fldP p3 2 fun p4 =>
  ldV p4 s6 fun t3 =>
  nchk x1 fun p5 =>
  fldP p5 1 fun p6 =>
  ldV p6 s6 fun t4 =>
  (callJ [.v, .i .i64] R (.fn 16 #[t3, t4, .int .i64 r3, .int .i64 r4]) s6 fun (r6 : Value) (r7 : Int) (s7 : Heap) =>
  cndT (cmpI .neq r7 0) (some ((.tuple #[(.slice none 0 0), .int .i64 5]), s7)) (lenV r6 fun n1 =>
  loopN (botJ [.v, .v, .v, .v, .i .i64, .i .i64]) (fun self1 => fun (x2 : Value) (pattern2 : Value) (out1 : Value) (t5 : Value) (t6 : Int) (t7 : Int) (s8 : Heap) =>
  cndT (cmpI .lss t7 t6) (idxS 1 t5 t7 fun p7 =>
  ldI .i64 p7 s8 fun t8 =>
  lenV pattern2 fun n2 =>
  (callJ [.a 2, .b] R (.fn 17 #[x2, .int .i64 t8, .int .i64 n2]) s8 fun (r8 : List Value) (r9 : Bool) (s9 : Heap) =>
  newO (mkRow [.int .i64 0, .int .i64 0]) s9 fun id1 s10 =>
  stN 2 (ptrTo id1) r8 s10 fun s11 =>
  cndT (!r9) (some ((.tuple #[(.slice none 0 0), .int .i64 5]), s11)) (ldG 2 (ptrTo id1) s11 fun t9 =>
  fillK (fillT (fun i => some (i * 2, 2)) [.int .i64 0, .int .i64 0] [(0, .a t9)]) fun l1 =>
  newO (mkRow l1) s11 fun id2 s12 =>
  appS Tryz.prog 2 16 [.int .i64 0, .int .i64 0] (some 27) out1 ((.slice (some ⟨id2, 0, none⟩) 1 1)) s12 fun t10 s13 =>
  arI .add .i64 t7 1 fun t11 =>
  self1 x2 pattern2 t10 t5 t6 t11 s13))) ((callJ [] R (.fn 18 #[out1, (.func (.func 19) #[] #[])]) s8 fun (s14 : Heap) =>
  some ((.tuple #[out1, .int .i64 0]), s14)))) L x1 pattern1 (.slice none 0 0) r6 n1 0 s7))))) (none))))
def g5A : Ann := (.s .d (.s (.s .d (.s .d (.c (.s .d .d) .d))) (.s .d (.s (.s .d (.c (.s .d .d) .d)) (.s .d (.s (.s .d (.c (.s .d .d) .d)) (.s .d (.s (.s .d (.b (.l [(0, .v), (1, .v), (11, .v), (51, .v), (52, .i .i64), (53, .i .i64)] (.s .d (.s (.c .d .d) (.s (.b (.s .d (.s .d (.s (.s .d (.c (.s .d .d) .d)) .d)))) .d)))))) (.s .d (.s .d .d))))))))))
theorem g5E (R : Idl.Callee) (L : Nat) : funT Tryz.prog R L Tryz.f5 g5A [.v, .v] = g5 R L := by kernel_rfl
/-- (*incipit/index.Index).Extract -/
def g6 (R : Idl.Callee) (L : Nat) : JT [.v, .i .i64, .i .i64, .i .i64] := fun (x1 : Value) (doc1 : Int) (fromq1 : Int) (to1 : Int) (s1 : Heap) =>
  (callJ [.i .i64, .i .i64] R (.fn 7 #[x1, .int .i64 doc1]) s1 fun (r1 : Int) (r2 : Int) (s2 : Heap) =>
  cndT (cmpI .neq r2 0) (some ((.tuple #[(.slice none 0 0), .int .i64 r2]), s2)) (joinK (fun (x2 : Value) (doc2 : Int) (fromq2 : Int) (to2 : Int) (t1 : Bool) (s3 : Heap) =>
  cndT t1 (some ((.tuple #[(.slice none 0 0), .int .i64 10]), s3)) (nchk x2 fun p1 =>
  fldP p1 0 fun p2 =>
  ldV p2 s3 fun t2 =>
  (callJ [.i .i64, .i .i64] R (.fn 20 #[t2, .int .i64 doc2]) s3 fun (r3 : Int) (r4 : Int) (s4 : Heap) =>
  heH 20 s4 fun base1 s5 =>
  nchk x2 fun p3 =>
  fldP p3 2 fun p4 =>
  ldV p4 s5 fun t3 =>
  nchk x2 fun p5 =>
  fldP p5 1 fun p6 =>
  ldV p6 s5 fun t4 =>
  arI .add .i64 r3 fromq2 fun t5 =>
  arI .add .i64 r3 to2 fun t6 =>
  (callJ [.v, .i .i64] R (.fn 21 #[t3, t4, .int .i64 t5, .int .i64 t6]) s5 fun (r5 : Value) (r6 : Int) (s6 : Heap) =>
  cndT (cmpI .neq r6 0) (some ((.tuple #[(.slice none 0 0), .int .i64 5]), s6)) (newO (mkRow []) s6 fun id1 s7 =>
  (callJ [.b] R (.fn 23 #[r5, (.func (.func 22) #[] #[])]) s7 fun (r7 : Bool) (s8 : Heap) =>
  cndT r7 (some ((.tuple #[(.slice none 0 0), .int .i64 5]), s8)) (lenV r5 fun n1 =>
  loopN (botJ [.v, .v, .i .i64, .i .i64]) (fun self1 => fun (out1 : Value) (t7 : Value) (t8 : Int) (t9 : Int) (s9 : Heap) =>
  cndT (cmpI .lss t9 t8) (idxS 1 t7 t9 fun p7 =>
  ldI .i64 p7 s9 fun t10 =>
  arI .sub .i64 t10 2 fun t11 =>
  bdI (wr .u8 t11) fun t12 =>
  newO (mkRow [(.int .u8 t12)]) s9 fun id2 s10 =>
  appS Tryz.prog 1 1 [.int .u8 0] (some 22) out1 ((.slice (some ⟨id2, 0, none⟩) 1 1)) s10 fun t13 s11 =>
  arI .add .i64 t9 1 fun t14 =>
  self1 t13 t7 t8 t14 s11) (some ((.tuple #[out1, .int .i64 0]), s9))) L (.slice (some ⟨id1, 0, none⟩) 0 0) r5 n1 0 s8))))))) fun J1 =>
  cndT (cmpI .lss fromq1 0) (J1 x1 doc1 fromq1 to1 true s2) (cndT (cmpI .gtr to1 r1) (J1 x1 doc1 fromq1 to1 true s2) (J1 x1 doc1 fromq1 to1 (cmpI .gtr fromq1 to1) s2))))
def g6A : Ann := (.s .d (.s .d (.s (.b (.s .d (.c (.s .d .d) (.j [(0, .v), (1, .i .i64), (2, .i .i64), (3, .i .i64), (29, .b)] .d (.c (.s .d .d) .d))))) (.s .d (.s .d (.s (.s .d (.c (.s .d .d) .d)) (.s .d (.s .d (.s (.s .d (.c (.s .d .d) .d)) (.s (.s .d (.b (.l [(15, .v), (75, .v), (76, .i .i64), (77, .i .i64)] (.s .d (.s (.c .d .d) (.s (.b (.s .d .d)) .d)))))) (.s .d .d)))))))))))
theorem g6E (R : Idl.Callee) (L : Nat) : funT Tryz.prog R L Tryz.f6 g6A [.v, .i .i64, .i .i64, .i .i64] = g6 R L := by kernel_rfl
/-- (*incipit/index.Index).Size -/
def g7 (R : Idl.Callee) (L : Nat) : JT [.v, .i .i64] := fun (x1 : Value) (doc1 : Int) (s1 : Heap) =>
  nilT .p x1 (.pointer none) fun c1 =>
  cndT (flipB true c1) (some ((.tuple #[.int .i64 0, .int .i64 11]), s1)) (nchk x1 fun p1 =>
  fldP p1 0 fun p2 =>
  ldV p2 s1 fun t1 =>
  (callJ [.i .i64, .i .i64] R (.fn 24 #[t1, .int .i64 doc1]) s1 fun (r1 : Int) (r2 : Int) (s2 : Heap) =>
  some ((.tuple #[.int .i64 r1, .int .i64 r2]), s2)))
def g7A : Ann := (.s .d (.s (.s .d (.c (.s .d .d) .d)) (.s .d .d)))
theorem g7E (R : Idl.Callee) (L : Nat) : funT Tryz.prog R L Tryz.f7 g7A [.v, .i .i64] = g7 R L := by kernel_rfl
/-- incipit/incipitlaw24.known -/
def g8 (R : Idl.Callee) (L : Nat) : JT [] := fun (s1 : Heap) =>
  newO (mkRow [(.int .u8 97), (.int .u8 98), (.int .u8 114), (.int .u8 97)]) s1 fun id1 s2 =>
  byV (cvW Tryz.prog s2 22 22 (.slice (some ⟨id1, 0, none⟩) 4 4)) fun t1 s3 =>
  newO (mkRow [(.int .u8 98), (.int .u8 114), (.int .u8 97)]) s3 fun id2 s4 =>
  byV (cvW Tryz.prog s4 22 22 (.slice (some ⟨id2, 0, none⟩) 3 3)) fun t2 s5 =>
  newO (mkRow [t1, t2]) s5 fun id3 s6 =>
  (callJ [.v, .i .i64] R (.fn 25 #[(.slice (some ⟨id3, 0, none⟩) 2 2)]) s6 fun (r1 : Value) (r2 : Int) (s7 : Heap) =>
  newO (mkRow [(.int .u8 98), (.int .u8 114), (.int .u8 97)]) s7 fun id4 s8 =>
  byV (cvW Tryz.prog s8 22 22 (.slice (some ⟨id4, 0, none⟩) 3 3)) fun t3 s9 =>
  (callJ [.i .i64, .i .i64] R (.fn 4 #[r1, t3]) s9 fun (r3 : Int) (r4 : Int) (s10 : Heap) =>
  newO (mkRow [(.int .u8 98), (.int .u8 114), (.int .u8 97)]) s10 fun id5 s11 =>
  byV (cvW Tryz.prog s11 22 22 (.slice (some ⟨id5, 0, none⟩) 3 3)) fun t4 s12 =>
  (callJ [.v, .i .i64] R (.fn 5 #[r1, t4]) s12 fun (r5 : Value) (r6 : Int) (s13 : Heap) =>
  cndT (cmpI .eql r2 0) (cndT (cmpI .eql r4 0) (cndT (cmpI .eql r3 2) (cndT (cmpI .eql r6 0) (lenV r5 fun n1 =>
  cndT (cmpI .eql n1 2) (idxS 2 r5 0 fun p1 =>
  ldG 2 p1 s13 fun t5 =>
  eqG Tryz.prog .eql 52 (.tmp 52) (.tmp 53) (.agg t5.toArray) (.agg [.int .i64 0, (.int .i64 1)].toArray) fun c1 =>
  cndT c1 (idxS 2 r5 1 fun p2 =>
  ldG 2 p2 s13 fun t6 =>
  eqG Tryz.prog .eql 52 (.tmp 59) (.tmp 60) (.agg t6.toArray) (.agg [(.int .i64 1), .int .i64 0].toArray) fun c2 =>
  some (.bool c2, s13)) (some (.bool false, s13))) (some (.bool false, s13))) (some (.bool false, s13))) (some (.bool false, s13))) (some (.bool false, s13))) (some (.bool false, s13)))))
def g8A : Ann := (.s .d (.s .d (.s .d (.s .d (.s .d .d)))))
theorem g8E (R : Idl.Callee) (L : Nat) : funT Tryz.prog R L Tryz.f8 g8A [] = g8 R L := by kernel_rfl
/-- (*incipit/index.Index).Docs -/
def g9 (R : Idl.Callee) (L : Nat) : JT [.v] := fun (x1 : Value) (s1 : Heap) =>
  nilT .p x1 (.pointer none) fun c1 =>
  cndT (flipB true c1) (some (.int .i64 0, s1)) (nchk x1 fun p1 =>
  fldP p1 0 fun p2 =>
  ldV p2 s1 fun t1 =>
  (callJ [.i .i64] R (.fn 26 #[t1]) s1 fun (r1 : Int) (s2 : Heap) =>
  some (.int .i64 r1, s2)))
def g9A : Ann := (.s .d (.s (.s .d (.c (.s .d .d) .d)) (.s .d .d)))
theorem g9E (R : Idl.Callee) (L : Nat) : funT Tryz.prog R L Tryz.f9 g9A [.v] = g9 R L := by kernel_rfl
/-- (*incipit/index.Index).Bytes -/
def g10 (R : Idl.Callee) (L : Nat) : JT [.v] := fun (x1 : Value) (s1 : Heap) =>
  (callJ [.v] R (.fn 11 #[x1]) s1 fun (r1 : Value) (s2 : Heap) =>
  lenV r1 fun n1 =>
  loopN (botJ [.i .i64, .v, .i .i64, .i .i64]) (fun self1 => fun (n2 : Int) (t1 : Value) (t2 : Int) (t3 : Int) (s3 : Heap) =>
  cndT (cmpI .lss t3 t2) (idxS 1 t1 t3 fun p1 =>
  ldV p1 s3 fun t4 =>
  lenV t4 fun n3 =>
  arI .add .i64 n2 n3 fun t5 =>
  arI .add .i64 t3 1 fun t6 =>
  self1 t5 t1 t2 t6 s3) (some (.int .i64 n2, s3))) L 0 r1 n1 0 s2)
def g10A : Ann := (.s .d (.s .d (.s (.s .d (.b (.l [(3, .i .i64), (7, .v), (8, .i .i64), (9, .i .i64)] (.s .d (.s (.c .d .d) (.s (.b (.s .d .d)) .d)))))) (.s .d .d))))
theorem g10E (R : Idl.Callee) (L : Nat) : funT Tryz.prog R L Tryz.f10 g10A [.v] = g10 R L := by kernel_rfl
/-- (*incipit/index.Index).Parts -/
def g11 (R : Idl.Callee) (L : Nat) : JT [.v] := fun (x1 : Value) (s1 : Heap) =>
  nilT .p x1 (.pointer none) fun c1 =>
  cndT (flipB true c1) (some ((.slice none 0 0), s1)) (heH 17 s1 fun base1 s2 =>
  nchk x1 fun p1 =>
  fldP p1 1 fun p2 =>
  ldV p2 s2 fun t1 =>
  (callJ [.v] R (.fn 27 #[t1]) s2 fun (r1 : Value) (s3 : Heap) =>
  nchk x1 fun p3 =>
  fldP p3 2 fun p4 =>
  ldV p4 s2 fun t2 =>
  ldV p4 s3 fun t3 =>
  cndT (sameTV (.v t3) (.v t2)) ((callJ [.v] R (.fn 28 #[t2]) s3 fun (r2 : Value) (s4 : Heap) =>
  nchk x1 fun p5 =>
  fldP p5 0 fun p6 =>
  ldV p6 s2 fun t4 =>
  ldV p6 s3 fun t5 =>
  cndT (sameTV (.v t5) (.v t4)) (ldV p6 s4 fun t6 =>
  cndT (sameTV (.v t6) (.v t4)) ((callJ [.v] R (.fn 29 #[t4]) s4 fun (r3 : Value) (s5 : Heap) =>
  puO base1 [(15, (mkRow [r1, r2, r3]))] s5 fun s6 =>
  some ((.slice (some ⟨(Nat.add base1 15), 0, none⟩) 3 3), s6))) (none)) (none))) (none)))
def g11A : Ann := (.s .d (.s (.s .d (.c (.s .d .d) .d)) (.s .d .d)))
theorem g11E (R : Idl.Callee) (L : Nat) : funT Tryz.prog R L Tryz.f11 g11A [.v] = g11 R L := by kernel_rfl
/-- (*incipit/index.Index).check -/
def g12 (R : Idl.Callee) (L : Nat) : JT [.v, .v] := fun (x1 : Value) (pattern1 : Value) (s1 : Heap) =>
  nilT .p x1 (.pointer none) fun c1 =>
  cndT (flipB true c1) (some (.int .i64 11, s1)) (lenV pattern1 fun n1 =>
  cndT (cmpI .eql n1 0) (some (.int .i64 1, s1)) (lenV pattern1 fun n2 =>
  cndT (cmpI .gtr n2 64) (some (.int .i64 2, s1)) (some (.int .i64 0, s1))))
def g12A : Ann := (.s .d (.s (.b (.s .d (.c (.s .d .d) (.s .d (.c (.s .d .d) (.s .d (.c (.s .d .d) .d))))))) (.s .d .d)))
theorem g12E (R : Idl.Callee) (L : Nat) : funT Tryz.prog R L Tryz.f12 g12A [.v, .v] = g12 R L := by kernel_rfl
/-- (*incipit/search.Index).Count -/
def g13 (R : Idl.Callee) (L : Nat) : JT [.v, .v] := fun (x1 : Value) (pattern1 : Value) (s1 : Heap) =>
  (callJ [.i .i64, .i .i64, .i .i64] R (.fn 15 #[x1, pattern1]) s1 fun (r1 : Int) (r2 : Int) (r3 : Int) (s2 : Heap) =>
  arI .sub .i64 r2 r1 fun t1 =>
  some (.int .i64 t1, s2))
def g13A : Ann := (.s .d (.s .d (.s .d .d)))
theorem g13E (R : Idl.Callee) (L : Nat) : funT Tryz.prog R L Tryz.f13 g13A [.v, .v] = g13 R L := by kernel_rfl
/-- incipit/alpha.Pattern -/
def g14 (R : Idl.Callee) (L : Nat) : JT [.v] := fun (b1 : Value) (s1 : Heap) =>
  lenV b1 fun n1 =>
  loopN (botJ [.v, .v, .i .i64, .i .i64]) (fun self1 => fun (out1 : Value) (t1 : Value) (t2 : Int) (t3 : Int) (s2 : Heap) =>
  cndT (cmpI .lss t3 t2) (idxS 1 t1 t3 fun p1 =>
  ldI .u8 p1 s2 fun t4 =>
  bdI (wr .i64 t4) fun t5 =>
  arI .add .i64 2 t5 fun t6 =>
  newO (mkRow [(.int .i64 t6)]) s2 fun id1 s3 =>
  appS Tryz.prog 1 8 [.int .i64 0] (some 45) out1 ((.slice (some ⟨id1, 0, none⟩) 1 1)) s3 fun t7 s4 =>
  arI .add .i64 t3 1 fun t8 =>
  self1 t7 t1 t2 t8 s4) (some (out1, s2))) L (.slice none 0 0) b1 n1 0 s1
def g14A : Ann := (.s .d (.s .d (.s (.s .d (.b (.l [(3, .v), (6, .v), (7, .i .i64), (8, .i .i64)] (.s .d (.s (.c .d .d) (.s (.b (.s .d .d)) .d)))))) (.s .d .d))))
theorem g14E (R : Idl.Callee) (L : Nat) : funT Tryz.prog R L Tryz.f14 g14A [.v] = g14 R L := by kernel_rfl
/-- (*incipit/sample.Samples).Places -/
def g16 (R : Idl.Callee) (L : Nat) : JT [.v, .v, .i .i64, .i .i64] := fun (s1 : Value) (x1 : Value) (fromq1 : Int) (to1 : Int) (s2 : Heap) =>
  (callJ [.i .i64] R (.fn 35 #[s1, x1, .int .i64 fromq1, .int .i64 to1]) s2 fun (r1 : Int) (s3 : Heap) =>
  cndT (cmpI .neq r1 0) (some ((.tuple #[(.slice none 0 0), .int .i64 r1]), s3)) (loopN (botJ [.v, .v, .i .i64, .v, .i .i64]) (fun self1 => fun (s4 : Value) (x2 : Value) (to2 : Int) (out1 : Value) (atq1 : Int) (s5 : Heap) =>
  cndT (cmpI .lss atq1 to2) ((callJ [.i .i64, .i .i64] R (.fn 36 #[s4, x2, .int .i64 atq1]) s5 fun (r2 : Int) (r3 : Int) (s6 : Heap) =>
  cndT (cmpI .neq r3 0) (some ((.tuple #[(.slice none 0 0), .int .i64 r3]), s6)) (newO (mkRow [(.int .i64 r2)]) s6 fun id1 s7 =>
  appS Tryz.prog 1 8 [.int .i64 0] (some 45) out1 ((.slice (some ⟨id1, 0, none⟩) 1 1)) s7 fun t1 s8 =>
  arI .add .i64 atq1 1 fun t2 =>
  self1 s4 x2 to2 t1 t2 s8))) ((callJ [] R (.fn 37 #[out1]) s5 fun (s9 : Heap) =>
  some ((.tuple #[out1, .int .i64 0]), s9)))) L s1 x1 to1 (.slice none 0 0) fromq1 s3))
def g16A : Ann := (.s .d (.s (.s .d (.s .d (.c (.s .d .d) .d))) (.s .d (.s (.s .d (.b (.l [(0, .v), (1, .v), (3, .i .i64), (11, .v), (12, .i .i64)] (.s (.s .d (.c .d .d)) (.s (.b (.s .d (.s (.s .d (.c (.s .d .d) .d)) .d))) .d))))) (.s .d (.s .d .d))))))
theorem g16E (R : Idl.Callee) (L : Nat) : funT Tryz.prog R L Tryz.f16 g16A [.v, .v, .i .i64, .i .i64] = g16 R L := by kernel_rfl
/-- (*incipit/index.Index).hit -/
def g17 (R : Idl.Callee) (L : Nat) : JT [.v, .i .i64, .i .i64] := fun (x1 : Value) (place1 : Int) (size1 : Int) (s1 : Heap) =>
  newO (mkRow [.int .i64 0, .int .i64 0]) s1 fun id1 s2 =>
  nchk x1 fun p1 =>
  fldP p1 0 fun p2 =>
  ldV p2 s2 fun t1 =>
  (callJ [.i .i64, .i .i64, .i .i64] R (.fn 38 #[t1, .int .i64 place1]) s2 fun (r1 : Int) (r2 : Int) (r3 : Int) (s3 : Heap) =>
  nchk x1 fun p3 =>
  fldP p3 0 fun p4 =>
  ldV p4 s3 fun t2 =>
  (callJ [.i .i64, .i .i64] R (.fn 24 #[t2, .int .i64 r1]) s3 fun (r4 : Int) (r5 : Int) (s4 : Heap) =>
  cndT (cmpI .eql r3 0) (arI .add .i64 r2 size1 fun t3 =>
  stN 2 (ptrTo id1) [(.int .i64 r1), (.int .i64 r2)] s4 fun s5 =>
  ldG 2 (ptrTo id1) s5 fun res1 =>
  some ((.tuple #[.agg res1.toArray, .bool (cmpI .leq t3 r4)]), s5)) (stN 2 (ptrTo id1) [(.int .i64 r1), (.int .i64 r2)] s4 fun s6 =>
  ldG 2 (ptrTo id1) s6 fun res2 =>
  some ((.tuple #[.agg res2.toArray, .bool false]), s6))))
def g17A : Ann := (.s .d (.s .d (.s .d (.s .d .d))))
theorem g17E (R : Idl.Callee) (L : Nat) : funT Tryz.prog R L Tryz.f17 g17A [.v, .i .i64, .i .i64] = g17 R L := by kernel_rfl
end
end Go.Proofs.YtpddlhbhpncfaaaGreat
