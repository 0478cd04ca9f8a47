/- Typed forms of functions, printed by a program of our own. -/
import Derived.Test.YtpddlhbhpncfaaaGreatProg
import Derived.KernelRfl
import Derived.Test.YtpddlhbhpncfaaaGreatIa5
namespace Go.Proofs.YtpddlhbhpncfaaaGreat
open Go Go.Idl
set_option linter.unusedVariables false
noncomputable section
/-- (incipit/sais.stack).last -/
def g92 (R : Idl.Callee) (L : Nat) : JT [.v] := fun (s1 : Value) (s2 : Heap) =>
  (callJ [.v] R (.fn 94 #[s1]) s2 fun (r1 : Value) (s3 : Heap) =>
  (callJ [.b] R (.fn 128 #[r1]) s3 fun (r2 : Bool) (s4 : Heap) =>
  cndT r2 ((callJ [.v] R (.fn 131 #[r1]) s4 fun (r3 : Value) (s5 : Heap) =>
  (callJ [.v, .i .i64] R (.fn 130 #[r3]) s5 fun (r4 : Value) (r5 : Int) (s6 : Heap) =>
  some (r4, s6)))) ((callJ [.v, .i .i64] R (.fn 132 #[r1]) s4 fun (r6 : Value) (r7 : Int) (s7 : Heap) =>
  (callJ [.v, .i .i64] R (.fn 95 #[r1, r6]) s7 fun (r8 : Value) (r9 : Int) (s8 : Heap) =>
  some (r8, s8))))))
def g92A : Ann := (.s .d (.s .d (.s (.s .d (.c (.s .d (.s .d .d)) .d)) (.s .d (.s .d (.s .d .d))))))
theorem g92E (R : Idl.Callee) (L : Nat) : funT Tryz.prog R L Tryz.f92 g92A [.v] = g92 R L := by kernel_rfl
/-- incipit/induce.Back -/
def g93 (R : Idl.Callee) (L : Nat) : JT [.v, .v] := fun (text1 : Value) (order1 : Value) (s1 : Heap) =>
  (callJ [.v, .i .i64] R (.fn 132 #[text1]) s1 fun (r1 : Value) (r2 : Int) (s2 : Heap) =>
  cndT (cmpI .neq r2 0) (some ((.tuple #[(.slice none 0 0), .int .i64 r2]), s2)) ((callJ [.v, .i .i64] R (.fn 130 #[order1]) s2 fun (r3 : Value) (r4 : Int) (s3 : Heap) =>
  joinK (fun (order2 : Value) (l1 : Value) (t1 : Bool) (s4 : Heap) =>
  cndT t1 (some ((.tuple #[(.slice none 0 0), .int .i64 3]), s4)) (lenV order2 fun n1 =>
  loopN (botJ [.v, .v, .v, .i .i64, .i .i64]) (fun self1 => fun (l2 : Value) (out1 : Value) (t2 : Value) (t3 : Int) (t4 : Int) (s5 : Heap) =>
  cndT (cmpI .lss t4 t3) (idxS 1 t2 t4 fun p1 =>
  ldI .i64 p1 s5 fun t5 =>
  idxS 1 l2 t5 fun p2 =>
  ldI .i64 p2 s5 fun t6 =>
  newO (mkRow [(.int .i64 t6)]) s5 fun id1 s6 =>
  appS Tryz.prog 1 8 [.int .i64 0] (some 45) out1 ((.slice (some ⟨id1, 0, none⟩) 1 1)) s6 fun t7 s7 =>
  arI .add .i64 t4 1 fun t8 =>
  self1 l2 t7 t2 t3 t8 s7) (some ((.tuple #[out1, .int .i64 0]), s5))) L l1 (.slice none 0 0) order2 n1 0 s4)) fun J1 =>
  cndT (cmpI .neq r4 0) (J1 order1 r1 true s3) (lenV order1 fun n2 =>
  lenV r1 fun n3 =>
  J1 order1 r1 (cmpI .neq n2 n3) s3))))
def g93A : Ann := (.s .d (.s .d (.s (.s .d (.c (.s .d .d) .d)) (.s (.s .d (.j [(1, .v), (6, .v), (34, .b)] .d (.c (.s .d .d) .d))) (.s .d (.s (.s .d (.b (.l [(6, .v), (10, .v), (35, .v), (36, .i .i64), (37, .i .i64)] (.s .d (.s (.c .d .d) (.s (.b (.s .d .d)) .d)))))) (.s .d .d)))))))
theorem g93E (R : Idl.Callee) (L : Nat) : funT Tryz.prog R L Tryz.f93 g93A [.v, .v] = g93 R L := by kernel_rfl
/-- (incipit/sais.stack).top -/
def g94 (R : Idl.Callee) (L : Nat) : JT [.v] := fun (s1 : Value) (s2 : Heap) =>
  lenV s1 fun n1 =>
  arI .sub .i64 n1 1 fun t1 =>
  idxS 1 s1 t1 fun p1 =>
  ldV p1 s2 fun t2 =>
  some (t2, s2)
def g94A : Ann := (.s .d (.s .d .d))
theorem g94E (R : Idl.Callee) (L : Nat) : funT Tryz.prog R L Tryz.f94 g94A [.v] = g94 R L := by kernel_rfl
/-- incipit/induce.Induce -/
def g95 (R : Idl.Callee) (L : Nat) : JT [.v, .v] := fun (text1 : Value) (firsts1 : Value) (s1 : Heap) =>
  (callJ [.v, .i .i64] R (.fn 132 #[text1]) s1 fun (r1 : Value) (r2 : Int) (s2 : Heap) =>
  cndT (cmpI .neq r2 0) (some ((.tuple #[(.slice none 0 0), .int .i64 r2]), s2)) ((callJ [.v] R (.fn 134 #[firsts1]) s2 fun (r3 : Value) (s3 : Heap) =>
  (callJ [.v] R (.fn 133 #[r3]) s3 fun (r4 : Value) (s4 : Heap) =>
  (callJ [.b] R (.fn 96 #[r4, r1]) s4 fun (r5 : Bool) (s5 : Heap) =>
  cndT (!r5) (some ((.tuple #[(.slice none 0 0), .int .i64 3]), s5)) ((callJ [.v] R (.fn 135 #[text1, firsts1]) s5 fun (r6 : Value) (s6 : Heap) =>
  some ((.tuple #[r6, .int .i64 0]), s6))))))))
def g95A : Ann := (.s .d (.s .d (.s (.s .d (.c (.s .d .d) .d)) (.s (.s .d (.c (.s .d .d) .d)) (.s .d .d)))))
theorem g95E (R : Idl.Callee) (L : Nat) : funT Tryz.prog R L Tryz.f95 g95A [.v, .v] = g95 R L := by kernel_rfl
/-- slices.Equal[[]int,int] -/
def g96 (R : Idl.Callee) (L : Nat) : JT [.v, .v] := fun (s1 : Value) (s2 : Value) (s3 : Heap) =>
  lenV s1 fun n1 =>
  lenV s2 fun n2 =>
  cndT (cmpI .neq n1 n2) (some (.bool false, s3)) (lenV s1 fun n3 =>
  loopN (botJ [.v, .v, .i .i64, .i .i64]) (fun self1 => fun (s4 : Value) (s5 : Value) (t1 : Int) (t2 : Int) (s6 : Heap) =>
  cndT (cmpI .lss t2 t1) (heH 9 s6 fun base1 s7 =>
  idxS 1 s4 t2 fun p1 =>
  ldI .i64 p1 s7 fun t3 =>
  idxS 1 s5 t2 fun p2 =>
  ldI .i64 p2 s7 fun t4 =>
  cndT (cmpI .neq t3 t4) (some (.bool false, s7)) (arI .add .i64 t2 1 fun t5 =>
  self1 s4 s5 t1 t5 s7)) (some (.bool true, s6))) L s1 s2 n3 0 s3)
def g96A : Ann := (.s .d (.s (.s .d (.c (.s .d .d) .d)) (.s (.s .d (.b (.l [(0, .v), (1, .v), (12, .i .i64), (13, .i .i64)] (.s .d (.s (.c .d .d) (.s (.b (.s .d (.s .d (.c (.s .d .d) .d)))) .d)))))) (.s .d .d))))
theorem g96E (R : Idl.Callee) (L : Nat) : funT Tryz.prog R L Tryz.f96 g96A [.v, .v] = g96 R L := by kernel_rfl
/-- incipit/suffix.Right -/
def g97 (R : Idl.Callee) (L : Nat) : JT [.v, .v] := fun (text1 : Value) (l1 : Value) (s1 : Heap) =>
  (callJ [.v, .i .i64] R (.fn 130 #[l1]) s1 fun (r1 : Value) (r2 : Int) (s2 : Heap) =>
  joinK (fun (text2 : Value) (l2 : Value) (atq1 : Value) (t1 : Bool) (s3 : Heap) =>
  cndT t1 (some (.bool false, s3)) (loopN (botJ [.v, .v, .v, .i .i64]) (fun self1 => fun (text3 : Value) (l3 : Value) (atq2 : Value) (i1 : Int) (s4 : Heap) =>
  lenV l3 fun n1 =>
  cndT (cmpI .lss i1 n1) (heH 11 s4 fun base1 s5 =>
  arI .sub .i64 i1 1 fun t2 =>
  idxS 1 l3 t2 fun p1 =>
  ldI .i64 p1 s5 fun t3 =>
  idxS 1 l3 i1 fun p2 =>
  ldI .i64 p2 s5 fun t4 =>
  joinK (fun (text4 : Value) (l4 : Value) (atq3 : Value) (i2 : Int) (t5 : Bool) (s6 : Heap) =>
  cndT t5 (some (.bool false, s6)) (arI .add .i64 i2 1 fun t6 =>
  self1 text4 l4 atq3 t6 s6)) fun J2 =>
  heH 33 s5 fun base2 s7 =>
  idxS 1 text3 t3 fun p3 =>
  ldI .i64 p3 s7 fun t7 =>
  idxS 1 text3 t4 fun p4 =>
  ldI .i64 p4 s7 fun t8 =>
  cndT (cmpI .gtr t7 t8) (J2 text3 l3 atq2 i1 true s7) (idxS 1 text3 t3 fun p5 =>
  ldI .i64 p5 s7 fun t9 =>
  idxS 1 text3 t4 fun p6 =>
  ldI .i64 p6 s7 fun t10 =>
  cndT (cmpI .eql t9 t10) (arI .add .i64 t3 1 fun t11 =>
  idxS 1 atq2 t11 fun p7 =>
  ldI .i64 p7 s7 fun t12 =>
  arI .add .i64 t4 1 fun t13 =>
  idxS 1 atq2 t13 fun p8 =>
  ldI .i64 p8 s7 fun t14 =>
  J2 text3 l3 atq2 i1 (cmpI .gtr t12 t14) s7) (J2 text3 l3 atq2 i1 false s7))) (some (.bool true, s4))) L text2 l2 atq1 1 s3)) fun J1 =>
  cndT (cmpI .neq r2 0) (J1 text1 l1 r1 true s2) (lenV l1 fun n2 =>
  lenV text1 fun n3 =>
  cndT (cmpI .neq n2 n3) (J1 text1 l1 r1 true s2) ((callJ [.i .i64] R (.fn 90 #[text1]) s2 fun (r3 : Int) (s8 : Heap) =>
  J1 text1 l1 r1 (cmpI .neq r3 0) s8))))
def g97A : Ann := (.s .d (.s .d (.s (.j [(0, .v), (1, .v), (5, .v), (28, .b)] .d (.c (.s .d .d) .d)) (.s (.s .d (.b (.l [(0, .v), (1, .v), (5, .v), (7, .i .i64)] (.s (.s .d (.c .d .d)) (.s (.b (.s .d (.j [(0, .v), (1, .v), (5, .v), (7, .i .i64), (76, .b)] .d (.c (.s .d .d) .d)))) .d))))) (.s .d .d)))))
theorem g97E (R : Idl.Callee) (L : Nat) : funT Tryz.prog R L Tryz.f97 g97A [.v, .v] = g97 R L := by kernel_rfl
/-- incipit/search.New -/
def g98 (R : Idl.Callee) (L : Nat) : JT [.v] := fun (text1 : Value) (s1 : Heap) =>
  (callJ [.v, .i .i64] R (.fn 136 #[text1]) s1 fun (r1 : Value) (r2 : Int) (s2 : Heap) =>
  cndT (cmpI .neq r2 0) (some ((.tuple #[(.pointer none), .int .i64 r2]), s2)) (lenV text1 fun n1 =>
  joinK (fun (text2 : Value) (t1 : Value) (t2 : Bool) (s3 : Heap) =>
  cndT t2 (some ((.tuple #[(.pointer none), .int .i64 3]), s3)) ((callJ [.v, .i .i64] R (.fn 138 #[t1, text2]) s3 fun (r3 : Value) (r4 : Int) (s4 : Heap) =>
  (callJ [.v, .i .i64] R (.fn 139 #[r3]) s4 fun (r5 : Value) (r6 : Int) (s5 : Heap) =>
  cndT (cmpI .neq r6 0) (some ((.tuple #[(.pointer none), .int .i64 r6]), s5)) ((callJ [.v, .i .i64] R (.fn 140 #[r5]) s5 fun (r7 : Value) (r8 : Int) (s6 : Heap) =>
  cndT (cmpI .neq r8 0) (some ((.tuple #[(.pointer none), .int .i64 r8]), s6)) (newO (mkRow [t1, r7]) s6 fun id1 s7 =>
  some ((.tuple #[(ptrTo id1), .int .i64 0]), s7)))))))) fun J1 =>
  cndT (cmpI .eql n1 0) (J1 text1 r1 true s2) (arI .sub .i64 n1 1 fun t3 =>
  idxS 1 text1 t3 fun p1 =>
  ldI .i64 p1 s2 fun t4 =>
  cndT (cmpI .neq t4 0) (J1 text1 r1 true s2) ((callJ [.i .i64] R (.fn 137 #[r1, .int .i64 0]) s2 fun (r9 : Int) (s8 : Heap) =>
  J1 text1 r1 (cmpI .neq r9 1) s8)))))
def g98A : Ann := (.s .d (.s .d (.s (.s .d (.c (.s .d .d) .d)) (.s (.s .d (.j [(0, .v), (4, .v), (35, .b)] .d (.c (.s .d .d) .d))) (.s .d (.s .d (.s (.s .d (.c (.s .d .d) .d)) (.s .d (.s (.s .d (.c (.s .d .d) .d)) (.s .d .d))))))))))
theorem g98E (R : Idl.Callee) (L : Nat) : funT Tryz.prog R L Tryz.f98 g98A [.v] = g98 R L := by kernel_rfl
/-- incipit/sample.New -/
def g99 (R : Idl.Callee) (L : Nat) : JT [.i .i64, .v] := fun (every1 : Int) (order1 : Value) (s1 : Heap) =>
  joinK (fun (every2 : Int) (order2 : Value) (t1 : Bool) (s2 : Heap) =>
  cndT t1 (some ((.tuple #[(.pointer none), .int .i64 1]), s2)) ((callJ [.v, .i .i64] R (.fn 130 #[order2]) s2 fun (r1 : Value) (r2 : Int) (s3 : Heap) =>
  joinK (fun (every3 : Int) (order3 : Value) (turned1 : Value) (t2 : Bool) (s4 : Heap) =>
  cndT t2 (some ((.tuple #[(.pointer none), .int .i64 3]), s4)) (lenV order3 fun n1 =>
  loopN (botJ [.i .i64, .v, .v, .v, .v, .v, .v, .i .i64, .i .i64]) (fun self1 => fun (every4 : Int) (order4 : Value) (turned2 : Value) (marks1 : Value) (places1 : Value) (rows1 : Value) (t3 : Value) (t4 : Int) (t5 : Int) (s5 : Heap) =>
  cndT (cmpI .lss t5 t4) (joinK (fun (every5 : Int) (order5 : Value) (turned3 : Value) (marks2 : Value) (places2 : Value) (rows2 : Value) (t6 : Value) (t7 : Int) (t8 : Int) (s6 : Heap) =>
  arI .add .i64 t8 1 fun t9 =>
  self1 every5 order5 turned3 marks2 places2 rows2 t6 t7 t9 s6) fun J3 =>
  idxS 1 t3 t5 fun p1 =>
  ldI .i64 p1 s5 fun t10 =>
  arI .rem .i64 t10 every4 fun t11 =>
  cndT (cmpI .eql t11 0) (heH 12 s5 fun base1 s7 =>
  puO base1 [(2, (mkRow [(.int .i64 t5)]))] s7 fun s8 =>
  appS Tryz.prog 1 8 [.int .i64 0] (some 45) marks1 ((.slice (some ⟨(Nat.add base1 2), 0, none⟩) 1 1)) s8 fun t12 s9 =>
  arI .quo .i64 t10 every4 fun t13 =>
  puO base1 [(8, (mkRow [(.int .i64 t13)]))] s9 fun s10 =>
  appS Tryz.prog 1 8 [.int .i64 0] (some 45) places1 ((.slice (some ⟨(Nat.add base1 8), 0, none⟩) 1 1)) s10 fun t14 s11 =>
  J3 every4 order4 turned2 t12 t14 rows1 t3 t4 t5 s11) (J3 every4 order4 turned2 marks1 places1 rows1 t3 t4 t5 s5)) (loopN (botJ [.i .i64, .v, .v, .v, .v, .v, .i .i64]) (fun self2 => fun (every6 : Int) (order6 : Value) (turned4 : Value) (marks3 : Value) (places3 : Value) (rows3 : Value) (p2 : Int) (s12 : Heap) =>
  lenV order6 fun n2 =>
  cndT (cmpI .lss p2 n2) (idxS 1 turned4 p2 fun p3 =>
  ldI .i64 p3 s12 fun t15 =>
  newO (mkRow [(.int .i64 t15)]) s12 fun id1 s13 =>
  appS Tryz.prog 1 8 [.int .i64 0] (some 45) rows3 ((.slice (some ⟨id1, 0, none⟩) 1 1)) s13 fun t16 s14 =>
  arI .add .i64 p2 every6 fun t17 =>
  self2 every6 order6 turned4 marks3 places3 t16 t17 s14) (lenV order6 fun n3 =>
  (callJ [.v, .i .i64] R (.fn 141 #[.int .i64 n3, marks3]) s12 fun (r3 : Value) (r4 : Int) (s15 : Heap) =>
  cndT (cmpI .neq r4 0) (some ((.tuple #[(.pointer none), .int .i64 3]), s15)) ((callJ [.v, .i .i64] R (.fn 142 #[places3]) s15 fun (r5 : Value) (r6 : Int) (s16 : Heap) =>
  (callJ [.v, .i .i64] R (.fn 142 #[rows3]) s16 fun (r7 : Value) (r8 : Int) (s17 : Heap) =>
  newO (mkRow [(.int .i64 every6), r3, r5, r7]) s17 fun id2 s18 =>
  some ((.tuple #[(ptrTo id2), .int .i64 0]), s18))))))) L every4 order4 turned2 marks1 places1 rows1 0 s5)) L every3 order3 turned1 (.slice none 0 0) (.slice none 0 0) (.slice none 0 0) order3 n1 0 s4)) fun J2 =>
  cndT (cmpI .neq r2 0) (J2 every2 order2 r1 true s3) (lenV order2 fun n4 =>
  J2 every2 order2 r1 (cmpI .eql n4 0) s3)))) fun J1 =>
  cndT (cmpI .lss every1 1) (J1 every1 order1 true s1) (J1 every1 order1 (cmpI .gtr every1 64) s1)
def g99A : Ann := (.s .d (.s (.j [(0, .i .i64), (1, .v), (24, .b)] .d (.c (.s .d .d) .d)) (.s .d (.s (.j [(0, .i .i64), (1, .v), (6, .v), (36, .b)] .d (.c (.s .d .d) .d)) (.s .d (.s (.s .d (.b (.l [(0, .i .i64), (1, .v), (6, .v), (8, .v), (9, .v), (10, .v), (37, .v), (38, .i .i64), (39, .i .i64)] (.s .d (.s (.c .d .d) (.j [(0, .i .i64), (1, .v), (6, .v), (8, .v), (9, .v), (10, .v), (37, .v), (38, .i .i64), (39, .i .i64)] (.b (.s .d (.s .d (.c .d .d)))) .d)))))) (.s (.s .d (.b (.l [(0, .i .i64), (1, .v), (6, .v), (8, .v), (9, .v), (10, .v), (13, .i .i64)] (.s (.s .d (.c .d .d)) (.s (.b .d) .d))))) (.s .d (.s (.s .d (.c (.s .d .d) .d)) (.s .d (.s .d (.s .d .d))))))))))))
theorem g99E (R : Idl.Callee) (L : Nat) : funT Tryz.prog R L Tryz.f99 g99A [.i .i64, .v] = g99 R L := by kernel_rfl
/-- slices.Grow[[]byte,byte] -/
def g100 (R : Idl.Callee) (L : Nat) : JT [.v, .i .i64] := fun (s1 : Value) (n1 : Int) (s2 : Heap) =>
  joinK (fun (s3 : Value) (n2 : Int) (s4 : Heap) =>
  joinK (fun (s5 : Value) (s6 : Heap) =>
  some (s5, s6)) fun J2 =>
  capV s3 fun n3 =>
  lenV s3 fun n4 =>
  arI .sub .i64 n3 n4 fun t1 =>
  arI .sub .i64 n2 t1 fun t2 =>
  cndT (cmpI .gtr t2 0) (capV s3 fun n5 =>
  slcV 1 s3 none (some n5) none fun t3 =>
  appS Tryz.prog 1 1 [.int .u8 0] (some 3) t3 (.int .i64 t2) s4 fun t4 s7 =>
  lenV s3 fun n6 =>
  slcV 1 t4 none (some n6) none fun t5 =>
  J2 t5 s7) (J2 s3 s4)) fun J1 =>
  cndT (cmpI .lss n1 0) (none) (J1 s1 n1 s2)
def g100A : Ann := (.s .d (.j [(0, .v), (1, .i .i64)] (.s .d (.c .d .d)) (.j [(0, .v)] (.s .d (.s .d (.c .d .d))) (.s .d .d))))
theorem g100E (R : Idl.Callee) (L : Nat) : funT Tryz.prog R L Tryz.f100 g100A [.v, .i .i64] = g100 R L := by kernel_rfl
/-- incipit/varint.put -/
def g101 (R : Idl.Callee) (L : Nat) : JT [.v, .i .u64] := fun (out1 : Value) (n1 : Int) (s1 : Heap) =>
  loopN (botJ [.v, .i .u64]) (fun self1 => fun (out2 : Value) (n2 : Int) (s2 : Heap) =>
  cndT (cmpI .geq n2 128) (bdI (wr .u8 n2) fun t1 =>
  arI .or .u8 t1 128 fun t2 =>
  newO (mkRow [(.int .u8 t2)]) s2 fun id1 s3 =>
  appS Tryz.prog 1 1 [.int .u8 0] (some 22) out2 ((.slice (some ⟨id1, 0, none⟩) 1 1)) s3 fun t3 s4 =>
  arI .shr .u64 n2 7 fun t4 =>
  self1 t3 t4 s4) (bdI (wr .u8 n2) fun t5 =>
  newO (mkRow [(.int .u8 t5)]) s2 fun id2 s5 =>
  appS Tryz.prog 1 1 [.int .u8 0] (some 22) out2 ((.slice (some ⟨id2, 0, none⟩) 1 1)) s5 fun t6 s6 =>
  some (t6, s6))) L out1 n1 s1
def g101A : Ann := (.s .d (.s (.b (.l [(0, .v), (1, .i .u64)] (.s (.s .d (.c .d .d)) (.s (.b .d) .d)))) (.s .d .d)))
theorem g101E (R : Idl.Callee) (L : Nat) : funT Tryz.prog R L Tryz.f101 g101A [.v, .i .u64] = g101 R L := by kernel_rfl
/-- incipit/packed.Size -/
def g102 (R : Idl.Callee) (L : Nat) : JT [.i .i64, .i .i64] := fun (width1 : Int) (n1 : Int) (s1 : Heap) =>
  joinK (fun (width2 : Int) (n2 : Int) (t1 : Bool) (s2 : Heap) =>
  cndT t1 (some (.int .i64 0, s2)) (arI .mul .i64 width2 n2 fun t2 =>
  arI .add .i64 t2 7 fun t3 =>
  arI .quo .i64 t3 8 fun t4 =>
  some (.int .i64 t4, s2))) fun J1 =>
  (callJ [.b] R (.fn 143 #[.int .i64 width1]) s1 fun (r1 : Bool) (s3 : Heap) =>
  cndT (!r1) (J1 width1 n1 true s3) (cndT (cmpI .lss n1 0) (J1 width1 n1 true s3) (J1 width1 n1 (cmpI .gtr n1 65536) s3)))
def g102A : Ann := (.s .d (.s (.j [(0, .i .i64), (1, .i .i64), (15, .b)] .d (.c (.s .d .d) .d)) (.s .d .d)))
theorem g102E (R : Idl.Callee) (L : Nat) : funT Tryz.prog R L Tryz.f102 g102A [.i .i64, .i .i64] = g102 R L := by kernel_rfl
/-- cmp.Less[int] -/
def g103 (R : Idl.Callee) (L : Nat) : JT [.i .i64, .i .i64] := fun (x1 : Int) (y1 : Int) (s1 : Heap) =>
  (callJ [.b] R (.fn 80 #[.int .i64 x1]) s1 fun (r1 : Bool) (s2 : Heap) =>
  cndT r1 ((callJ [.b] R (.fn 80 #[.int .i64 y1]) s2 fun (r2 : Bool) (s3 : Heap) =>
  cndT (!r2) (some (.bool true, s3)) (some (.bool (cmpI .lss x1 y1), s3)))) (some (.bool (cmpI .lss x1 y1), s2)))
def g103A : Ann := (.s .d (.s .d .d))
theorem g103E (R : Idl.Callee) (L : Nat) : funT Tryz.prog R L Tryz.f103 g103A [.i .i64, .i .i64] = g103 R L := by kernel_rfl
/-- slices.isNaN[int] -/
def g104 (R : Idl.Callee) (L : Nat) : JT [.i .i64] := fun (x1 : Int) (s1 : Heap) =>
  some (.bool (cmpI .neq x1 x1), s1)
def g104A : Ann := (.s .d (.s .d .d))
theorem g104E (R : Idl.Callee) (L : Nat) : funT Tryz.prog R L Tryz.f104 g104A [.i .i64] = g104 R L := by kernel_rfl
/-- (*incipit/wavelet.Matrix).place -/
def g105 (R : Idl.Callee) (L : Nat) : JT [.v, .i .i64] := fun (m1 : Value) (i1 : Int) (s1 : Heap) =>
  nilT .p m1 (.pointer none) fun c1 =>
  cndT (flipB true c1) (some (.int .i64 11, s1)) (joinK (fun (t1 : Bool) (s2 : Heap) =>
  cndT t1 (some (.int .i64 10, s2)) (some (.int .i64 0, s2))) fun J1 =>
  cndT (cmpI .lss i1 0) (J1 true s1) (nchk m1 fun p1 =>
  fldP p1 0 fun p2 =>
  ldI .i64 p2 s1 fun t2 =>
  J1 (cmpI .gtr i1 t2) s1))
def g105A : Ann := (.s .d (.s (.b (.s .d (.c (.s .d .d) (.j [(8, .b)] .d (.c (.s .d .d) .d))))) (.s .d .d)))
theorem g105E (R : Idl.Callee) (L : Nat) : funT Tryz.prog R L Tryz.f105 g105A [.v, .i .i64] = g105 R L := by kernel_rfl
/-- (*incipit/wavelet.Matrix).has -/
def g106 (R : Idl.Callee) (L : Nat) : JT [.v, .i .i64] := fun (m1 : Value) (code1 : Int) (s1 : Heap) =>
  cndT (cmpI .geq code1 0) (nchk m1 fun p1 =>
  fldP p1 1 fun p2 =>
  ldV p2 s1 fun t1 =>
  lenV t1 fun n1 =>
  arI .shr .i64 code1 n1 fun t2 =>
  some (.bool (cmpI .eql t2 0), s1)) (some (.bool false, s1))
def g106A : Ann := (.s .d (.s .d .d))
theorem g106E (R : Idl.Callee) (L : Nat) : funT Tryz.prog R L Tryz.f106 g106A [.v, .i .i64] = g106 R L := by kernel_rfl
end
end Go.Proofs.YtpddlhbhpncfaaaGreat
