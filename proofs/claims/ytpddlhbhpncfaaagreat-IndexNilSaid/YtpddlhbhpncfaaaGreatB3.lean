/- Typed forms of functions, printed by a program of our own. -/
import Derived.Test.YtpddlhbhpncfaaaGreatProg
import Derived.KernelRfl
import Derived.Test.YtpddlhbhpncfaaaGreatIa5
namespace Go.Proofs.YtpddlhbhpncfaaaGreat
open Go Go.Idl
set_option linter.unusedVariables false
noncomputable section
/-- (*incipit/search.Index).Ahead -/
def g48 (R : Idl.Callee) (L : Nat) : JT [.v, .i .i64] := fun (x1 : Value) (i1 : Int) (s1 : Heap) =>
  (callJ [.i .i64] R (.fn 83 #[x1, .int .i64 i1]) s1 fun (r1 : Int) (s2 : Heap) =>
  cndT (cmpI .neq r1 0) (some ((.tuple #[.int .i64 0, .int .i64 0, .int .i64 r1]), s2)) (nchk x1 fun p1 =>
  fldP p1 1 fun p2 =>
  ldV p2 s2 fun t1 =>
  (callJ [.i .i64, .i .i64] R (.fn 88 #[t1, .int .i64 i1]) s2 fun (r2 : Int) (r3 : Int) (s3 : Heap) =>
  nchk x1 fun p3 =>
  fldP p3 0 fun p4 =>
  ldV p4 s3 fun t2 =>
  (callJ [.i .i64, .i .i64] R (.fn 87 #[t2, .int .i64 r2]) s3 fun (r4 : Int) (r5 : Int) (s4 : Heap) =>
  (callJ [.i .i64] R (.fn 34 #[x1, .int .i64 r2, .int .i64 i1]) s4 fun (r6 : Int) (s5 : Heap) =>
  some ((.tuple #[.int .i64 r4, .int .i64 r6, .int .i64 0]), s5))))))
def g48A : Ann := (.s .d (.s (.s .d (.s .d (.c (.s .d .d) .d))) (.s .d (.s .d (.s .d .d)))))
theorem g48E (R : Idl.Callee) (L : Nat) : funT Tryz.prog R L Tryz.f48 g48A [.v, .i .i64] = g48 R L := by kernel_rfl
/-- slices.IndexFunc[[]int,int] -/
def g49 (R : Idl.Callee) (L : Nat) : JT [.v, .v] := fun (s1 : Value) (f1 : Value) (s2 : Heap) =>
  lenV s1 fun n1 =>
  loopN (botJ [.v, .v, .i .i64, .i .i64]) (fun self1 => fun (s3 : Value) (f2 : Value) (t1 : Int) (t2 : Int) (s4 : Heap) =>
  cndT (cmpI .lss t2 t1) (idxS 1 s3 t2 fun p1 =>
  ldI .i64 p1 s4 fun t3 =>
  fnOf f2 [.int .i64 t3] fun tg1 =>
  (callJ [.b] R tg1 s4 fun (r1 : Bool) (s5 : Heap) =>
  cndT r1 (some (.int .i64 t2, s5)) (arI .add .i64 t2 1 fun t4 =>
  self1 s3 f2 t1 t4 s5))) (some (.int .i64 (-1), s4))) L s1 f1 n1 0 s2
def g49A : Ann := (.s .d (.s (.s .d (.b (.l [(0, .v), (1, .v), (7, .i .i64), (8, .i .i64)] (.s .d (.s (.c .d .d) (.s (.b (.s .d (.s .d (.c (.s .d .d) .d)))) .d)))))) (.s .d .d)))
theorem g49E (R : Idl.Callee) (L : Nat) : funT Tryz.prog R L Tryz.f49 g49A [.v, .v] = g49 R L := by kernel_rfl
/-- incipit/docs.Of -/
def g50 (R : Idl.Callee) (L : Nat) : JT [.v] := fun (docsq1 : Value) (s1 : Heap) =>
  lenV docsq1 fun n1 =>
  loopN (botJ [.v, .v, .i .i64, .i .i64]) (fun self1 => fun (sizes1 : Value) (t1 : Value) (t2 : Int) (t3 : Int) (s2 : Heap) =>
  cndT (cmpI .lss t3 t2) (idxS 1 t1 t3 fun p1 =>
  ldV p1 s2 fun t4 =>
  lenV t4 fun n2 =>
  newO (mkRow [(.int .i64 n2)]) s2 fun id1 s3 =>
  appS Tryz.prog 1 8 [.int .i64 0] (some 45) sizes1 ((.slice (some ⟨id1, 0, none⟩) 1 1)) s3 fun t5 s4 =>
  arI .add .i64 t3 1 fun t6 =>
  self1 t5 t1 t2 t6 s4) ((callJ [.v, .i .i64] R (.fn 89 #[sizes1]) s2 fun (r1 : Value) (r2 : Int) (s5 : Heap) =>
  some ((.tuple #[r1, .int .i64 r2]), s5)))) L (.slice none 0 0) docsq1 n1 0 s1
def g50A : Ann := (.s .d (.s .d (.s (.s .d (.b (.l [(4, .v), (7, .v), (8, .i .i64), (9, .i .i64)] (.s .d (.s (.c .d .d) (.s (.b (.s .d .d)) .d)))))) (.s .d .d))))
theorem g50E (R : Idl.Callee) (L : Nat) : funT Tryz.prog R L Tryz.f50 g50A [.v] = g50 R L := by kernel_rfl
/-- incipit/alpha.Text -/
def g51 (R : Idl.Callee) (L : Nat) : JT [.v] := fun (docsq1 : Value) (s1 : Heap) =>
  lenV docsq1 fun n1 =>
  loopN (botJ [.v, .i .i64, .v, .i .i64, .i .i64]) (fun self1 => fun (docsq2 : Value) (n2 : Int) (t1 : Value) (t2 : Int) (t3 : Int) (s2 : Heap) =>
  cndT (cmpI .lss t3 t2) (idxS 1 t1 t3 fun p1 =>
  ldV p1 s2 fun t4 =>
  lenV t4 fun n3 =>
  arI .add .i64 n2 n3 fun t5 =>
  arI .add .i64 t5 1 fun t6 =>
  bdI (minI t6 65537) fun t7 =>
  arI .add .i64 t3 1 fun t8 =>
  self1 docsq2 t7 t1 t2 t8 s2) (cndT (cmpI .gtr n2 65536) (some ((.tuple #[(.slice none 0 0), .int .i64 2]), s2)) (lenV docsq2 fun n4 =>
  loopN (botJ [.v, .v, .i .i64, .i .i64]) (fun self2 => fun (out1 : Value) (t9 : Value) (t10 : Int) (t11 : Int) (s3 : Heap) =>
  cndT (cmpI .lss t11 t10) (idxS 1 t9 t11 fun p2 =>
  ldV p2 s3 fun t12 =>
  (callJ [.v] R (.fn 14 #[t12]) s3 fun (r1 : Value) (s4 : Heap) =>
  appS Tryz.prog 1 8 [.int .i64 0] (some 45) out1 (r1) s4 fun t13 s5 =>
  newO (mkRow [(.int .i64 1)]) s5 fun id1 s6 =>
  appS Tryz.prog 1 8 [.int .i64 0] (some 45) t13 ((.slice (some ⟨id1, 0, none⟩) 1 1)) s6 fun t14 s7 =>
  arI .add .i64 t11 1 fun t15 =>
  self2 t14 t9 t10 t15 s7)) (newO (mkRow [(.int .i64 0)]) s3 fun id2 s8 =>
  appS Tryz.prog 1 8 [.int .i64 0] (some 45) out1 ((.slice (some ⟨id2, 0, none⟩) 1 1)) s8 fun t16 s9 =>
  some ((.tuple #[t16, .int .i64 0]), s9))) L (.slice none 0 0) docsq2 n4 0 s2))) L docsq1 1 docsq1 n1 0 s1
def g51A : Ann := (.s .d (.s .d (.s (.s .d (.b (.l [(0, .v), (4, .i .i64), (10, .v), (11, .i .i64), (12, .i .i64)] (.s .d (.s (.c .d .d) (.s (.b (.s .d .d)) .d)))))) (.s (.s .d (.c (.s .d .d) .d)) (.s .d (.s (.s .d (.b (.l [(7, .v), (25, .v), (26, .i .i64), (27, .i .i64)] (.s .d (.s (.c .d .d) (.s (.b (.s .d .d)) .d)))))) (.s .d .d)))))))
theorem g51E (R : Idl.Callee) (L : Nat) : funT Tryz.prog R L Tryz.f51 g51A [.v] = g51 R L := by kernel_rfl
/-- incipit/sais.Order -/
def g52 (R : Idl.Callee) (L : Nat) : JT [.v] := fun (text1 : Value) (s1 : Heap) =>
  (callJ [.i .i64] R (.fn 90 #[text1]) s1 fun (r1 : Int) (s2 : Heap) =>
  cndT (cmpI .neq r1 0) (some ((.tuple #[(.slice none 0 0), .int .i64 r1]), s2)) ((callJ [.v] R (.fn 91 #[text1]) s2 fun (r2 : Value) (s3 : Heap) =>
  (callJ [.v] R (.fn 92 #[r2]) s3 fun (r3 : Value) (s4 : Heap) =>
  loopN (botJ [.v, .v]) (fun self1 => fun (s5 : Value) (order1 : Value) (s6 : Heap) =>
  lenV s5 fun n1 =>
  cndT (cmpI .gtr n1 1) (lenV s5 fun n2 =>
  arI .sub .i64 n2 1 fun t1 =>
  slcV 1 s5 none (some t1) none fun t2 =>
  (callJ [.v] R (.fn 94 #[t2]) s6 fun (r4 : Value) (s7 : Heap) =>
  (callJ [.v, .i .i64] R (.fn 93 #[r4, order1]) s7 fun (r5 : Value) (r6 : Int) (s8 : Heap) =>
  cndT (cmpI .neq r6 0) (some ((.tuple #[(.slice none 0 0), .int .i64 r6]), s8)) ((callJ [.v] R (.fn 94 #[t2]) s8 fun (r7 : Value) (s9 : Heap) =>
  (callJ [.v, .i .i64] R (.fn 95 #[r7, r5]) s9 fun (r8 : Value) (r9 : Int) (s10 : Heap) =>
  cndT (cmpI .neq r9 0) (some ((.tuple #[(.slice none 0 0), .int .i64 r9]), s10)) (self1 t2 r8 s10))))))) (some ((.tuple #[order1, .int .i64 0]), s6))) L r2 r3 s4))))
def g52A : Ann := (.s .d (.s (.s .d (.s .d (.c (.s .d .d) .d))) (.s .d (.s .d (.s (.b (.l [(5, .v), (6, .v)] (.s (.s .d (.c .d .d)) (.b (.s .d (.s .d (.s (.s .d (.c (.s .d .d) .d)) (.s .d (.s .d (.c (.s .d .d) .d)))))))))) (.s .d .d))))))
theorem g52E (R : Idl.Callee) (L : Nat) : funT Tryz.prog R L Tryz.f52 g52A [.v] = g52 R L := by kernel_rfl
/-- incipit/index.Made -/
def g53 (R : Idl.Callee) (L : Nat) : JT [.v, .v, .v] := fun (text1 : Value) (order1 : Value) (all1 : Value) (s1 : Heap) =>
  (callJ [.v, .i .i64] R (.fn 50 #[all1]) s1 fun (r1 : Value) (r2 : Int) (s2 : Heap) =>
  cndT (cmpI .neq r2 0) (some ((.tuple #[(.pointer none), .int .i64 r2]), s2)) ((callJ [.v, .i .i64] R (.fn 51 #[all1]) s2 fun (r3 : Value) (r4 : Int) (s3 : Heap) =>
  joinK (fun (text2 : Value) (order2 : Value) (l1 : Value) (t1 : Bool) (s4 : Heap) =>
  cndT t1 (some ((.tuple #[(.pointer none), .int .i64 3]), s4)) ((callJ [.v, .i .i64] R (.fn 98 #[text2]) s4 fun (r5 : Value) (r6 : Int) (s5 : Heap) =>
  cndT (cmpI .neq r6 0) (some ((.tuple #[(.pointer none), .int .i64 r6]), s5)) ((callJ [.v, .i .i64] R (.fn 99 #[.int .i64 8, order2]) s5 fun (r7 : Value) (r8 : Int) (s6 : Heap) =>
  cndT (cmpI .neq r8 0) (some ((.tuple #[(.pointer none), .int .i64 r8]), s6)) (newO (mkRow [l1, r5, r7]) s6 fun id1 s7 =>
  some ((.tuple #[(ptrTo id1), .int .i64 0]), s7))))))) fun J1 =>
  (callJ [.b] R (.fn 96 #[r3, text1]) s3 fun (r9 : Bool) (s8 : Heap) =>
  cndT (!r9) (J1 text1 order1 r1 true s8) ((callJ [.b] R (.fn 97 #[text1, order1]) s8 fun (r10 : Bool) (s9 : Heap) =>
  J1 text1 order1 r1 (!r10) s9))))))
def g53A : Ann := (.s .d (.s .d (.s (.s .d (.c (.s .d .d) .d)) (.s (.s .d (.j [(0, .v), (1, .v), (8, .v), (36, .b)] .d (.c (.s .d .d) .d))) (.s .d (.s (.s .d (.c (.s .d .d) .d)) (.s .d (.s (.s .d (.c (.s .d .d) .d)) (.s .d .d)))))))))
theorem g53E (R : Idl.Callee) (L : Nat) : funT Tryz.prog R L Tryz.f53 g53A [.v, .v, .v] = g53 R L := by kernel_rfl
/-- slices.Concat[[]byte,byte] -/
def g54 (R : Idl.Callee) (L : Nat) : JT [.v] := fun (slices1 : Value) (s1 : Heap) =>
  lenV slices1 fun n1 =>
  loopN (botJ [.v, .i .i64, .v, .i .i64, .i .i64]) (fun self1 => fun (slices2 : Value) (size1 : Int) (t1 : Value) (t2 : Int) (t3 : Int) (s2 : Heap) =>
  cndT (cmpI .lss t3 t2) (joinK (fun (slices3 : Value) (size2 : Int) (t4 : Value) (t5 : Int) (t6 : Int) (s3 : Heap) =>
  arI .add .i64 t6 1 fun t7 =>
  self1 slices3 size2 t4 t5 t7 s3) fun J1 =>
  idxS 1 t1 t3 fun p1 =>
  ldV p1 s2 fun t8 =>
  lenV t8 fun n2 =>
  arI .add .i64 size1 n2 fun t9 =>
  cndT (cmpI .lss t9 0) (none) (J1 slices2 t9 t1 t2 t3 s2)) ((callJ [.v] R (.fn 100 #[(.slice none 0 0), .int .i64 size1]) s2 fun (r1 : Value) (s4 : Heap) =>
  lenV slices2 fun n3 =>
  loopN (botJ [.v, .v, .i .i64, .i .i64]) (fun self2 => fun (newslice1 : Value) (t10 : Value) (t11 : Int) (t12 : Int) (s5 : Heap) =>
  cndT (cmpI .lss t12 t11) (idxS 1 t10 t12 fun p2 =>
  ldV p2 s5 fun t13 =>
  appS Tryz.prog 1 1 [.int .u8 0] (some 22) newslice1 (t13) s5 fun t14 s6 =>
  arI .add .i64 t12 1 fun t15 =>
  self2 t14 t10 t11 t15 s6) (some (newslice1, s5))) L r1 slices2 n3 0 s4))) L slices1 0 slices1 n1 0 s1
def g54A : Ann := (.s .d (.s .d (.s (.s .d (.b (.l [(0, .v), (3, .i .i64), (9, .v), (10, .i .i64), (11, .i .i64)] (.s .d (.s (.c .d .d) (.j [(0, .v), (3, .i .i64), (9, .v), (10, .i .i64), (11, .i .i64)] (.b (.s .d (.s .d (.s .d (.c .d .d))))) .d)))))) (.s .d (.s (.s .d (.b (.l [(6, .v), (25, .v), (26, .i .i64), (27, .i .i64)] (.s .d (.s (.c .d .d) (.s (.b (.s .d .d)) .d)))))) (.s .d .d))))))
theorem g54E (R : Idl.Callee) (L : Nat) : funT Tryz.prog R L Tryz.f54 g54A [.v] = g54 R L := by kernel_rfl
/-- (*incipit/alpha.Table).Bytes -/
def g55 (R : Idl.Callee) (L : Nat) : JT [.v] := fun (t1 : Value) (s1 : Heap) =>
  nilT .p t1 (.pointer none) fun c1 =>
  cndT (flipB true c1) (some ((.slice none 0 0), s1)) (heH 13 s1 fun base1 s2 =>
  nchk t1 fun p1 =>
  fldP p1 0 fun p2 =>
  ldV p2 s2 fun t2 =>
  (callJ [.v] R (.fn 60 #[t2]) s2 fun (r1 : Value) (s3 : Heap) =>
  nchk t1 fun p3 =>
  fldP p3 1 fun p4 =>
  ldV p4 s2 fun t3 =>
  ldV p4 s3 fun t4 =>
  cndT (sameTV (.v t4) (.v t3)) ((callJ [.v] R (.fn 60 #[t3]) s3 fun (r2 : Value) (s4 : Heap) =>
  puO base1 [(10, (mkRow [r1, r2]))] s4 fun s5 =>
  (callJ [.v] R (.fn 54 #[(.slice (some ⟨(Nat.add base1 10), 0, none⟩) 2 2)]) s5 fun (r3 : Value) (s6 : Heap) =>
  some (r3, s6)))) (none)))
def g55A : Ann := (.s .d (.s (.s .d (.c (.s .d .d) .d)) (.s .d .d)))
theorem g55E (R : Idl.Callee) (L : Nat) : funT Tryz.prog R L Tryz.f55 g55A [.v] = g55 R L := by kernel_rfl
/-- (*incipit/wavelet.Matrix).Bytes -/
def g56 (R : Idl.Callee) (L : Nat) : JT [.v] := fun (m1 : Value) (s1 : Heap) =>
  nilT .p m1 (.pointer none) fun c1 =>
  cndT (flipB true c1) (some ((.slice none 0 0), s1)) (nchk m1 fun p1 =>
  fldP p1 1 fun p2 =>
  ldV p2 s1 fun t1 =>
  lenV t1 fun n1 =>
  bdI (wr .u8 n1) fun t2 =>
  newO (mkRow [(.int .u8 t2)]) s1 fun id1 s2 =>
  nchk m1 fun p3 =>
  fldP p3 1 fun p4 =>
  ldV p4 s2 fun t3 =>
  lenV t3 fun n2 =>
  loopN (botJ [.v, .v, .i .i64, .i .i64]) (fun self1 => fun (out1 : Value) (t4 : Value) (t5 : Int) (t6 : Int) (s3 : Heap) =>
  cndT (cmpI .lss t6 t5) (idxS 1 t4 t6 fun p5 =>
  ldV p5 s3 fun t7 =>
  (callJ [.v] R (.fn 58 #[t7]) s3 fun (r1 : Value) (s4 : Heap) =>
  appS Tryz.prog 1 1 [.int .u8 0] (some 22) out1 (r1) s4 fun t8 s5 =>
  arI .add .i64 t6 1 fun t9 =>
  self1 t8 t4 t5 t9 s5)) (some (out1, s3))) L (.slice (some ⟨id1, 0, none⟩) 1 1) t3 n2 0 s2)
def g56A : Ann := (.s .d (.s (.s .d (.c (.s .d .d) .d)) (.s .d (.s (.s .d (.b (.l [(3, .v), (18, .v), (19, .i .i64), (20, .i .i64)] (.s .d (.s (.c .d .d) (.s (.b (.s .d .d)) .d)))))) (.s .d .d)))))
theorem g56E (R : Idl.Callee) (L : Nat) : funT Tryz.prog R L Tryz.f56 g56A [.v] = g56 R L := by kernel_rfl
/-- incipit/varint.Put -/
def g57 (R : Idl.Callee) (L : Nat) : JT [.v] := fun (l1 : Value) (s1 : Heap) =>
  lenV l1 fun n1 =>
  loopN (botJ [.v, .v, .i .i64, .i .i64]) (fun self1 => fun (out1 : Value) (t1 : Value) (t2 : Int) (t3 : Int) (s2 : Heap) =>
  cndT (cmpI .lss t3 t2) (idxS 1 t1 t3 fun p1 =>
  ldI .i64 p1 s2 fun t4 =>
  cndT (cmpI .lss t4 0) (some ((.slice none 0 0), s2)) (bdI (wr .u64 t4) fun t5 =>
  (callJ [.v] R (.fn 101 #[out1, .int .u64 t5]) s2 fun (r1 : Value) (s3 : Heap) =>
  arI .add .i64 t3 1 fun t6 =>
  self1 r1 t1 t2 t6 s3))) (some (out1, s2))) L (.slice none 0 0) l1 n1 0 s1
def g57A : Ann := (.s .d (.s .d (.s (.s .d (.b (.l [(3, .v), (6, .v), (7, .i .i64), (8, .i .i64)] (.s .d (.s (.c .d .d) (.s (.b (.s .d (.s (.s .d (.c (.s .d .d) .d)) .d))) .d)))))) (.s .d .d))))
theorem g57E (R : Idl.Callee) (L : Nat) : funT Tryz.prog R L Tryz.f57 g57A [.v] = g57 R L := by kernel_rfl
/-- (*incipit/rank.Row).Bytes -/
def g58 (R : Idl.Callee) (L : Nat) : JT [.v] := fun (r1 : Value) (s1 : Heap) =>
  nilT .p r1 (.pointer none) fun c1 =>
  cndT (flipB true c1) (some ((.slice none 0 0), s1)) (nchk r1 fun p1 =>
  fldP p1 0 fun p2 =>
  ldI .i64 p2 s1 fun t1 =>
  newO (mkRow [(.int .i64 t1)]) s1 fun id1 s2 =>
  (callJ [.v] R (.fn 57 #[(.slice (some ⟨id1, 0, none⟩) 1 1)]) s2 fun (r2 : Value) (s3 : Heap) =>
  nchk r1 fun p3 =>
  fldP p3 0 fun p4 =>
  ldI .i64 p4 s3 fun t2 =>
  arI .add .i64 t2 7 fun t3 =>
  arI .quo .i64 t3 8 fun t4 =>
  loopN (botJ [.v, .v, .i .i64, .i .i64]) (fun self1 => fun (r3 : Value) (out1 : Value) (t5 : Int) (t6 : Int) (s4 : Heap) =>
  cndT (cmpI .lss t6 t5) (nchk r3 fun p5 =>
  fldP p5 1 fun p6 =>
  ldV p6 s4 fun t7 =>
  arI .quo .i64 t6 8 fun t8 =>
  idxS 1 t7 t8 fun p7 =>
  ldI .u64 p7 s4 fun t9 =>
  arI .rem .i64 t6 8 fun t10 =>
  arI .mul .i64 8 t10 fun t11 =>
  arI .shr .u64 t9 t11 fun t12 =>
  bdI (wr .u8 t12) fun t13 =>
  newO (mkRow [(.int .u8 t13)]) s4 fun id2 s5 =>
  appS Tryz.prog 1 1 [.int .u8 0] (some 22) out1 ((.slice (some ⟨id2, 0, none⟩) 1 1)) s5 fun t14 s6 =>
  arI .add .i64 t6 1 fun t15 =>
  self1 r3 t14 t5 t15 s6) (some (out1, s4))) L r1 r2 t4 0 s3))
def g58A : Ann := (.s .d (.s (.s .d (.c (.s .d .d) .d)) (.s .d (.s (.s .d (.b (.l [(0, .v), (3, .v), (18, .i .i64), (19, .i .i64)] (.s .d (.s (.c .d .d) (.s (.b (.s .d .d)) .d)))))) (.s .d .d)))))
theorem g58E (R : Idl.Callee) (L : Nat) : funT Tryz.prog R L Tryz.f58 g58A [.v] = g58 R L := by kernel_rfl
/-- (*incipit/packed.Array).Bytes -/
def g59 (R : Idl.Callee) (L : Nat) : JT [.v] := fun (a1 : Value) (s1 : Heap) =>
  nilT .p a1 (.pointer none) fun c1 =>
  cndT (flipB true c1) (some ((.slice none 0 0), s1)) (heH 14 s1 fun base1 s2 =>
  nchk a1 fun p1 =>
  fldP p1 1 fun p2 =>
  ldI .i64 p2 s2 fun t1 =>
  puO base1 [(10, (mkRow [(.int .i64 t1)]))] s2 fun s3 =>
  (callJ [.v] R (.fn 57 #[(.slice (some ⟨(Nat.add base1 10), 0, none⟩) 1 1)]) s3 fun (r1 : Value) (s4 : Heap) =>
  nchk a1 fun p3 =>
  fldP p3 0 fun p4 =>
  ldI .i64 p4 s2 fun t2 =>
  ldI .i64 p4 s4 fun t3 =>
  cndT (sameTV (.i .i64 t3) (.i .i64 t2)) (bdI (wr .u8 t2) fun t4 =>
  puO base1 [(5, (mkRow [(.int .u8 t4)]))] s4 fun s5 =>
  appS Tryz.prog 1 1 [.int .u8 0] (some 22) (.slice (some ⟨(Nat.add base1 5), 0, none⟩) 1 1) (r1) s5 fun t5 s6 =>
  heH 10 s6 fun base2 s7 =>
  nchk a1 fun p5 =>
  fldP p5 0 fun p6 =>
  ldI .i64 p6 s7 fun t6 =>
  nchk a1 fun p7 =>
  fldP p7 1 fun p8 =>
  ldI .i64 p8 s7 fun t7 =>
  (callJ [.i .i64] R (.fn 102 #[.int .i64 t6, .int .i64 t7]) s7 fun (r2 : Int) (s8 : Heap) =>
  loopN (botJ [.v, .v, .i .i64, .i .i64]) (fun self1 => fun (a2 : Value) (out1 : Value) (t8 : Int) (t9 : Int) (s9 : Heap) =>
  cndT (cmpI .lss t9 t8) (nchk a2 fun p9 =>
  fldP p9 2 fun p10 =>
  ldV p10 s9 fun t10 =>
  arI .quo .i64 t9 8 fun t11 =>
  idxS 1 t10 t11 fun p11 =>
  ldI .u64 p11 s9 fun t12 =>
  arI .rem .i64 t9 8 fun t13 =>
  arI .mul .i64 8 t13 fun t14 =>
  arI .shr .u64 t12 t14 fun t15 =>
  bdI (wr .u8 t15) fun t16 =>
  newO (mkRow [(.int .u8 t16)]) s9 fun id1 s10 =>
  appS Tryz.prog 1 1 [.int .u8 0] (some 22) out1 ((.slice (some ⟨id1, 0, none⟩) 1 1)) s10 fun t17 s11 =>
  arI .add .i64 t9 1 fun t18 =>
  self1 a2 t17 t8 t18 s11) (some (out1, s9))) L a1 t5 r2 0 s8)) (none)))
def g59A : Ann := (.s .d (.s (.s .d (.c (.s .d .d) .d)) (.s .d (.s (.s .d (.b (.l [(0, .v), (3, .v), (28, .i .i64), (29, .i .i64)] (.s .d (.s (.c .d .d) (.s (.b (.s .d .d)) .d)))))) (.s .d .d)))))
theorem g59E (R : Idl.Callee) (L : Nat) : funT Tryz.prog R L Tryz.f59 g59A [.v] = g59 R L := by kernel_rfl
/-- incipit/varint.List -/
def g60 (R : Idl.Callee) (L : Nat) : JT [.v] := fun (l1 : Value) (s1 : Heap) =>
  (callJ [.v] R (.fn 57 #[l1]) s1 fun (r1 : Value) (s2 : Heap) =>
  lenV r1 fun n1 =>
  lenV l1 fun n2 =>
  cndT (cmpI .lss n1 n2) (some ((.slice none 0 0), s2)) (lenV l1 fun n3 =>
  newO (mkRow [(.int .i64 n3)]) s2 fun id1 s3 =>
  (callJ [.v] R (.fn 57 #[(.slice (some ⟨id1, 0, none⟩) 1 1)]) s3 fun (r2 : Value) (s4 : Heap) =>
  appS Tryz.prog 1 1 [.int .u8 0] (some 22) r2 (r1) s4 fun t1 s5 =>
  some (t1, s5))))
def g60A : Ann := (.s .d (.s .d (.s (.s .d (.c (.s .d .d) .d)) (.s .d .d))))
theorem g60E (R : Idl.Callee) (L : Nat) : funT Tryz.prog R L Tryz.f60 g60A [.v] = g60 R L := by kernel_rfl
/-- (*incipit/wavelet.Matrix).Len -/
def g61 (R : Idl.Callee) (L : Nat) : JT [.v] := fun (m1 : Value) (s1 : Heap) =>
  nilT .p m1 (.pointer none) fun c1 =>
  cndT (flipB true c1) (some (.int .i64 0, s1)) (nchk m1 fun p1 =>
  fldP p1 0 fun p2 =>
  ldI .i64 p2 s1 fun t1 =>
  some (.int .i64 t1, s1))
def g61A : Ann := (.s .d (.s (.s .d (.c (.s .d .d) .d)) (.s .d .d)))
theorem g61E (R : Idl.Callee) (L : Nat) : funT Tryz.prog R L Tryz.f61 g61A [.v] = g61 R L := by kernel_rfl
/-- slices.Backward[[]int,int]$1 -/
def g62 (R : Idl.Callee) (L : Nat) : JT [.v, .v] := fun (yield1 : Value) (t1 : Value) (s1 : Heap) =>
  ldV t1 s1 fun t2 =>
  lenV t2 fun n1 =>
  arI .sub .i64 n1 1 fun t3 =>
  loopN (botJ [.v, .v, .i .i64]) (fun self1 => fun (yield2 : Value) (t4 : Value) (i1 : Int) (s2 : Heap) =>
  cndT (cmpI .geq i1 0) (ldV t4 s2 fun t5 =>
  idxS 1 t5 i1 fun p1 =>
  ldI .i64 p1 s2 fun t6 =>
  fnOf yield2 [.int .i64 i1, .int .i64 t6] fun tg1 =>
  (callJ [.b] R tg1 s2 fun (r1 : Bool) (s3 : Heap) =>
  cndT (!r1) (some ((.tuple #[]), s3)) (arI .sub .i64 i1 1 fun t7 =>
  self1 yield2 t4 t7 s3))) (some ((.tuple #[]), s2))) L yield1 t1 t3 s1
def g62A : Ann := (.s .d (.b (.l [(0, .v), (1, .v), (3, .i .i64)] (.s (.s .d (.c .d .d)) (.s (.b (.s .d (.c .d .d))) .d)))))
theorem g62E (R : Idl.Callee) (L : Nat) : funT Tryz.prog R L Tryz.f62 g62A [.v, .v] = g62 R L := by kernel_rfl
end
end Go.Proofs.YtpddlhbhpncfaaaGreat
