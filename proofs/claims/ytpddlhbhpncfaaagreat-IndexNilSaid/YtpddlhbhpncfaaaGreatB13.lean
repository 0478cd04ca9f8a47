/- Typed forms of functions, printed by a program of our own. -/
import Derived.Test.YtpddlhbhpncfaaaGreatProg
import Derived.KernelRfl
import Derived.Test.YtpddlhbhpncfaaaGreatIa5
namespace Go.Proofs.YtpddlhbhpncfaaaGreat
open Go Go.Idl
set_option linter.unusedVariables false
noncomputable section
/-- (*sync.Mutex).Unlock -/
def g199 (R : Idl.Callee) (L : Nat) : JT [.v] := fun (m1 : Value) (s1 : Heap) =>
  nchk m1 fun p1 =>
  fldP p1 0 fun p2 =>
  (callJ [] R (.fn 202 #[p2]) s1 fun (s2 : Heap) =>
  some ((.tuple #[]), s2))
def g199A : Ann := .d
theorem g199E (R : Idl.Callee) (L : Nat) : funT Tryz.prog R L Tryz.f199 g199A [.v] = g199 R L := by kernel_rfl
/-- (*sync/atomic.Bool).Store -/
def g200 (R : Idl.Callee) (L : Nat) : JT [.v, .b] := fun (x1 : Value) (val1 : Bool) (s1 : Heap) =>
  heH 6 s1 fun base1 s2 =>
  (callJ [.i .u32] R (.fn 204 #[.bool val1]) s2 fun (r1 : Int) (s3 : Heap) =>
  nchk x1 fun p1 =>
  fldP p1 0 fun p2 =>
  (callJ [] R (.fn 203 #[p2, .int .u32 r1]) s3 fun (s4 : Heap) =>
  some ((.tuple #[]), s4)))
def g200A : Ann := .d
theorem g200E (R : Idl.Callee) (L : Nat) : funT Tryz.prog R L Tryz.f200 g200A [.v, .b] = g200 R L := by kernel_rfl
/-- (*internal/sync.Mutex).Lock -/
def g201 (R : Idl.Callee) (L : Nat) : JT [.v] := fun (m1 : Value) (s1 : Heap) =>
  (callJ [] R (.fn 205 #[]) s1 fun (s2 : Heap) =>
  nchk m1 fun p1 =>
  fldP p1 0 fun p2 =>
  (callJ [.b] R (.fn 206 #[p2, .int .i32 0, .int .i32 1]) s2 fun (r1 : Bool) (s3 : Heap) =>
  cndT r1 ((callJ [] R (.fn 207 #[]) s3 fun (s4 : Heap) =>
  none)) ((callJ [] R (.fn 209 #[m1]) s3 fun (s5 : Heap) =>
  some ((.tuple #[]), s5)))))
def g201A : Ann := (.s .d (.s (.s .d (.c (.s (.c (.s .d .d) .d) .d) .d)) .d))
theorem g201E (R : Idl.Callee) (L : Nat) : funT Tryz.prog R L Tryz.f201 g201A [.v] = g201 R L := by kernel_rfl
/-- (*internal/sync.Mutex).Unlock -/
def g202 (R : Idl.Callee) (L : Nat) : JT [.v] := fun (m1 : Value) (s1 : Heap) =>
  joinK (fun (m2 : Value) (s2 : Heap) =>
  nchk m2 fun p1 =>
  fldP p1 0 fun p2 =>
  (callJ [.i .i32] R (.fn 211 #[p2, .int .i32 (-1)]) s2 fun (r1 : Int) (s3 : Heap) =>
  joinK (fun (s4 : Heap) =>
  (callJ [] R (.fn 207 #[]) s4 fun (s5 : Heap) =>
  some ((.tuple #[]), s5))) fun J2 =>
  cndT (cmpI .neq r1 0) ((callJ [] R (.fn 212 #[m2, .int .i32 r1]) s3 fun (s6 : Heap) =>
  J2 s6)) (J2 s3))) fun J1 =>
  nchk m1 fun p3 =>
  fldP p3 0 fun p4 =>
  ldI .i32 p4 s1 fun t1 =>
  none
def g202A : Ann := (.j [(0, .v)] (.c (.s .d (.s .d .d)) .d) (.s .d (.j [] (.s .d (.c .d .d)) .d)))
theorem g202E (R : Idl.Callee) (L : Nat) : funT Tryz.prog R L Tryz.f202 g202A [.v] = g202 R L := by kernel_rfl
/-- sync/atomic.b32 -/
def g204 (R : Idl.Callee) (L : Nat) : JT [.b] := fun (b1 : Bool) (s1 : Heap) =>
  cndT b1 (some (.int .u32 1, s1)) (some (.int .u32 0, s1))
def g204A : Ann := (.s .d (.s (.s .d (.c (.s .d .d) .d)) (.s .d .d)))
theorem g204E (R : Idl.Callee) (L : Nat) : funT Tryz.prog R L Tryz.f204 g204A [.b] = g204 R L := by kernel_rfl
/-- (*internal/sync.Mutex).lockSlow -/
def g209 (R : Idl.Callee) (L : Nat) : JT [.v] := fun (m1 : Value) (s1 : Heap) =>
  nchk m1 fun p1 =>
  fldP p1 0 fun p2 =>
  ldI .i32 p2 s1 fun t1 =>
  joinK (fun (m2 : Value) (s2 : Heap) =>
  (callJ [] R (.fn 207 #[]) s2 fun (s3 : Heap) =>
  none)) fun J1 =>
  loopN (botJ [.v, .i .i64, .b, .b, .i .i64, .i .i32]) (fun self1 => fun (m3 : Value) (waitStartTime1 : Int) (starving1 : Bool) (awoke1 : Bool) (iter1 : Int) (old1 : Int) (s4 : Heap) =>
  joinK (fun (m4 : Value) (waitStartTime2 : Int) (starving2 : Bool) (awoke2 : Bool) (iter2 : Int) (old2 : Int) (t2 : Bool) (s5 : Heap) =>
  cndT t2 (joinK (fun (m5 : Value) (waitStartTime3 : Int) (starving3 : Bool) (awoke3 : Bool) (iter3 : Int) (s6 : Heap) =>
  (callJ [] R (.fn 214 #[]) s6 fun (s7 : Heap) =>
  arI .add .i64 iter3 1 fun t3 =>
  nchk m5 fun p3 =>
  fldP p3 0 fun p4 =>
  ldI .i32 p4 s7 fun t4 =>
  self1 m5 waitStartTime3 starving3 awoke3 t3 t4 s7)) fun J3 =>
  joinK (fun (m6 : Value) (waitStartTime4 : Int) (starving4 : Bool) (awoke4 : Bool) (iter4 : Int) (t5 : Bool) (s8 : Heap) =>
  cndT t5 (J3 m6 waitStartTime4 starving4 true iter4 s8) (J3 m6 waitStartTime4 starving4 awoke4 iter4 s8)) fun J4 =>
  cndT (!awoke2) (arI .and .i32 old2 2 fun t6 =>
  cndT (cmpI .eql t6 0) (arI .shr .i32 old2 3 fun t7 =>
  cndT (cmpI .neq t7 0) (nchk m4 fun p5 =>
  fldP p5 0 fun p6 =>
  arI .or .i32 old2 2 fun t8 =>
  (callJ [.b] R (.fn 206 #[p6, .int .i32 old2, .int .i32 t8]) s5 fun (r1 : Bool) (s9 : Heap) =>
  J4 m4 waitStartTime2 starving2 awoke2 iter2 r1 s9)) (J4 m4 waitStartTime2 starving2 awoke2 iter2 false s5)) (J4 m4 waitStartTime2 starving2 awoke2 iter2 false s5)) (J4 m4 waitStartTime2 starving2 awoke2 iter2 false s5)) (joinK (fun (m7 : Value) (waitStartTime5 : Int) (starving5 : Bool) (awoke5 : Bool) (iter5 : Int) (old3 : Int) (new1 : Int) (s10 : Heap) =>
  joinK (fun (m8 : Value) (waitStartTime6 : Int) (starving6 : Bool) (awoke6 : Bool) (iter6 : Int) (old4 : Int) (new2 : Int) (s11 : Heap) =>
  joinK (fun (m9 : Value) (waitStartTime7 : Int) (starving7 : Bool) (awoke7 : Bool) (iter7 : Int) (old5 : Int) (new3 : Int) (s12 : Heap) =>
  joinK (fun (m10 : Value) (waitStartTime8 : Int) (starving8 : Bool) (awoke8 : Bool) (iter8 : Int) (old6 : Int) (new4 : Int) (s13 : Heap) =>
  nchk m10 fun p7 =>
  fldP p7 0 fun p8 =>
  (callJ [.b] R (.fn 206 #[p8, .int .i32 old6, .int .i32 new4]) s13 fun (r2 : Bool) (s14 : Heap) =>
  cndT r2 (arI .and .i32 old6 5 fun t9 =>
  cndT (cmpI .eql t9 0) (J1 m10 s14) (joinK (fun (m11 : Value) (waitStartTime9 : Int) (starving9 : Bool) (queueLifo1 : Bool) (s15 : Heap) =>
  nchk m11 fun p9 =>
  fldP p9 1 fun p10 =>
  (callJ [] R (.fn 217 #[p10, .bool queueLifo1, .int .i64 2]) s15 fun (s16 : Heap) =>
  joinK (fun (m12 : Value) (waitStartTime10 : Int) (starving10 : Bool) (s17 : Heap) =>
  nchk m12 fun p11 =>
  fldP p11 0 fun p12 =>
  ldI .i32 p12 s17 fun t10 =>
  arI .and .i32 t10 4 fun t11 =>
  cndT (cmpI .neq t11 0) (joinK (fun (m13 : Value) (starving11 : Bool) (old7 : Int) (s18 : Heap) =>
  joinK (fun (m14 : Value) (delta1 : Int) (s19 : Heap) =>
  nchk m14 fun p13 =>
  fldP p13 0 fun p14 =>
  (callJ [.i .i32] R (.fn 211 #[p14, .int .i32 delta1]) s19 fun (r3 : Int) (s20 : Heap) =>
  J1 m14 s20)) fun J12 =>
  joinK (fun (m15 : Value) (delta2 : Int) (t12 : Bool) (s21 : Heap) =>
  cndT t12 (arI .sub .i32 delta2 4 fun t13 =>
  J12 m15 t13 s21) (J12 m15 delta2 s21)) fun J13 =>
  cndT (!starving11) (J13 m13 (-7) true s18) (arI .shr .i32 old7 3 fun t14 =>
  J13 m13 (-7) (cmpI .eql t14 1) s18)) fun J11 =>
  joinK (fun (m16 : Value) (starving12 : Bool) (old8 : Int) (t15 : Bool) (s22 : Heap) =>
  cndT t15 ((callJ [] R (.fn 215 #[(.string ⟨#[115, 121, 110, 99, 58, 32, 105, 110, 99, 111, 110, 115, 105, 115, 116, 101, 110, 116, 32, 109, 117, 116, 101, 120, 32, 115, 116, 97, 116, 101]⟩)]) s22 fun (s23 : Heap) =>
  J11 m16 starving12 old8 s23)) (J11 m16 starving12 old8 s22)) fun J14 =>
  arI .and .i32 t10 3 fun t16 =>
  cndT (cmpI .neq t16 0) (J14 m12 starving10 t10 true s17) (arI .shr .i32 t10 3 fun t17 =>
  J14 m12 starving10 t10 (cmpI .eql t17 0) s17)) (self1 m12 waitStartTime10 starving10 true 0 t10 s17)) fun J10 =>
  cndT starving9 (J10 m11 waitStartTime9 true s16) ((callJ [.i .i64] R (.fn 216 #[]) s16 fun (r4 : Int) (s24 : Heap) =>
  arI .sub .i64 r4 waitStartTime9 fun t18 =>
  J10 m11 waitStartTime9 (cmpI .gtr t18 1000000) s24)))) fun J9 =>
  cndT (cmpI .eql waitStartTime8 0) ((callJ [.i .i64] R (.fn 216 #[]) s14 fun (r5 : Int) (s25 : Heap) =>
  J9 m10 r5 starving8 (cmpI .neq waitStartTime8 0) s25)) (J9 m10 waitStartTime8 starving8 (cmpI .neq waitStartTime8 0) s14))) (nchk m10 fun p15 =>
  fldP p15 0 fun p16 =>
  ldI .i32 p16 s14 fun t19 =>
  self1 m10 waitStartTime8 starving8 awoke8 iter8 t19 s14))) fun J8 =>
  cndT awoke7 (joinK (fun (m17 : Value) (waitStartTime11 : Int) (starving13 : Bool) (awoke9 : Bool) (iter9 : Int) (old9 : Int) (new5 : Int) (s26 : Heap) =>
  arI .andNot .i32 new5 2 fun t20 =>
  J8 m17 waitStartTime11 starving13 awoke9 iter9 old9 t20 s26) fun J15 =>
  arI .and .i32 new3 2 fun t21 =>
  cndT (cmpI .eql t21 0) ((callJ [] R (.fn 215 #[(.string ⟨#[115, 121, 110, 99, 58, 32, 105, 110, 99, 111, 110, 115, 105, 115, 116, 101, 110, 116, 32, 109, 117, 116, 101, 120, 32, 115, 116, 97, 116, 101]⟩)]) s12 fun (s27 : Heap) =>
  J15 m9 waitStartTime7 starving7 awoke7 iter7 old5 new3 s27)) (J15 m9 waitStartTime7 starving7 awoke7 iter7 old5 new3 s12)) (J8 m9 waitStartTime7 starving7 awoke7 iter7 old5 new3 s12)) fun J7 =>
  joinK (fun (m18 : Value) (waitStartTime12 : Int) (starving14 : Bool) (awoke10 : Bool) (iter10 : Int) (old10 : Int) (new6 : Int) (t22 : Bool) (s28 : Heap) =>
  cndT t22 (arI .or .i32 new6 4 fun t23 =>
  J7 m18 waitStartTime12 starving14 awoke10 iter10 old10 t23 s28) (J7 m18 waitStartTime12 starving14 awoke10 iter10 old10 new6 s28)) fun J16 =>
  cndT starving6 (arI .and .i32 old4 1 fun t24 =>
  J16 m8 waitStartTime6 starving6 awoke6 iter6 old4 new2 (cmpI .neq t24 0) s11) (J16 m8 waitStartTime6 starving6 awoke6 iter6 old4 new2 false s11)) fun J6 =>
  arI .and .i32 old3 5 fun t25 =>
  cndT (cmpI .neq t25 0) (arI .add .i32 new1 8 fun t26 =>
  J6 m7 waitStartTime5 starving5 awoke5 iter5 old3 t26 s10) (J6 m7 waitStartTime5 starving5 awoke5 iter5 old3 new1 s10)) fun J5 =>
  arI .and .i32 old2 4 fun t27 =>
  cndT (cmpI .eql t27 0) (arI .or .i32 old2 1 fun t28 =>
  J5 m4 waitStartTime2 starving2 awoke2 iter2 old2 t28 s5) (J5 m4 waitStartTime2 starving2 awoke2 iter2 old2 old2 s5))) fun J2 =>
  arI .and .i32 old1 5 fun t29 =>
  cndT (cmpI .eql t29 1) ((callJ [.b] R (.fn 213 #[.int .i64 iter1]) s4 fun (r6 : Bool) (s29 : Heap) =>
  J2 m3 waitStartTime1 starving1 awoke1 iter1 old1 r6 s29)) (J2 m3 waitStartTime1 starving1 awoke1 iter1 old1 false s4)) L m1 0 false false 0 t1 s1
def g209A : Ann := (.s .d (.s .d (.s .d (.s .d (.s .d (.j [(0, .v)] (.b (.l [(0, .v), (2, .i .i64), (3, .b), (4, .b), (5, .i .i64), (6, .i .i32)] (.b (.s (.j [(0, .v), (2, .i .i64), (3, .b), (4, .b), (5, .i .i64), (6, .i .i32), (20, .b)] .d (.c (.j [(0, .v), (2, .i .i64), (3, .b), (4, .b), (5, .i .i64)] (.j [(0, .v), (2, .i .i64), (3, .b), (4, .b), (5, .i .i64), (41, .b)] .d (.c .d .d)) (.s .d (.s .d (.s .d .d)))) .d)) (.s .d (.j [(0, .v), (2, .i .i64), (3, .b), (4, .b), (5, .i .i64), (6, .i .i32), (7, .i .i32)] (.s .d (.c .d .d)) (.j [(0, .v), (2, .i .i64), (3, .b), (4, .b), (5, .i .i64), (6, .i .i32), (7, .i .i32)] (.s .d (.c .d .d)) (.j [(0, .v), (2, .i .i64), (3, .b), (4, .b), (5, .i .i64), (6, .i .i32), (7, .i .i32)] (.j [(0, .v), (2, .i .i64), (3, .b), (4, .b), (5, .i .i64), (6, .i .i32), (7, .i .i32), (65, .b)] .d (.c .d .d)) (.j [(0, .v), (2, .i .i64), (3, .b), (4, .b), (5, .i .i64), (6, .i .i32), (7, .i .i32)] (.s .d (.c (.j [(0, .v), (2, .i .i64), (3, .b), (4, .b), (5, .i .i64), (6, .i .i32), (7, .i .i32)] (.s .d (.c .d .d)) .d) .d)) (.s .d (.c (.s (.s .d (.c .d .d)) (.s .d (.j [(0, .v), (2, .i .i64), (3, .b), (8, .b)] (.s .d (.c .d .d)) (.s .d (.j [(0, .v), (2, .i .i64), (3, .b)] .d (.s .d (.s (.s .d (.c (.j [(0, .v), (3, .b), (6, .i .i32)] (.j [(0, .v), (3, .b), (6, .i .i32), (115, .b)] .d (.c .d .d)) (.s .d (.j [(0, .v), (9, .i .i32)] (.j [(0, .v), (9, .i .i32), (123, .b)] .d (.c .d .d)) (.s .d .d)))) .d)) (.s .d .d)))))))) .d))))))))))) (.c (.s .d .d) .d)))))))
theorem g209E (R : Idl.Callee) (L : Nat) : funT Tryz.prog R L Tryz.f209 g209A [.v] = g209 R L := by kernel_rfl
/-- (*internal/sync.Mutex).unlockSlow -/
def g212 (R : Idl.Callee) (L : Nat) : JT [.v, .i .i32] := fun (m1 : Value) (new1 : Int) (s1 : Heap) =>
  joinK (fun (m2 : Value) (new2 : Int) (s2 : Heap) =>
  arI .and .i32 new2 4 fun t1 =>
  cndT (cmpI .eql t1 0) (loopN (botJ [.v, .i .i32]) (fun self1 => fun (m3 : Value) (old1 : Int) (s3 : Heap) =>
  joinK (fun (m4 : Value) (old2 : Int) (t2 : Bool) (s4 : Heap) =>
  cndT t2 (some ((.tuple #[]), s4)) (arI .sub .i32 old2 8 fun t3 =>
  arI .or .i32 t3 2 fun t4 =>
  nchk m4 fun p1 =>
  fldP p1 0 fun p2 =>
  (callJ [.b] R (.fn 206 #[p2, .int .i32 old2, .int .i32 t4]) s4 fun (r1 : Bool) (s5 : Heap) =>
  cndT r1 (nchk m4 fun p3 =>
  fldP p3 1 fun p4 =>
  (callJ [] R (.fn 219 #[p4, .bool false, .int .i64 2]) s5 fun (s6 : Heap) =>
  some ((.tuple #[]), s6))) (nchk m4 fun p5 =>
  fldP p5 0 fun p6 =>
  ldI .i32 p6 s5 fun t5 =>
  self1 m4 t5 s5)))) fun J2 =>
  arI .shr .i32 old1 3 fun t6 =>
  cndT (cmpI .eql t6 0) (J2 m3 old1 true s3) (arI .and .i32 old1 7 fun t7 =>
  J2 m3 old1 (cmpI .neq t7 0) s3)) L m2 new2 s2) (nchk m2 fun p7 =>
  fldP p7 1 fun p8 =>
  (callJ [] R (.fn 219 #[p8, .bool true, .int .i64 2]) s2 fun (s7 : Heap) =>
  some ((.tuple #[]), s7)))) fun J1 =>
  arI .add .i32 new1 1 fun t8 =>
  arI .and .i32 t8 1 fun t9 =>
  cndT (cmpI .eql t9 0) ((callJ [] R (.fn 218 #[(.string ⟨#[115, 121, 110, 99, 58, 32, 117, 110, 108, 111, 99, 107, 32, 111, 102, 32, 117, 110, 108, 111, 99, 107, 101, 100, 32, 109, 117, 116, 101, 120]⟩)]) s1 fun (s8 : Heap) =>
  J1 m1 new1 s8)) (J1 m1 new1 s1)
def g212A : Ann := (.j [(0, .v), (1, .i .i32)] (.s .d (.c .d .d)) (.s .d (.c (.s .d (.b (.l [(0, .v), (4, .i .i32)] (.b (.s (.j [(0, .v), (4, .i .i32), (21, .b)] .d (.c .d .d)) (.s .d (.s (.s .d (.c (.s .d .d) .d)) .d))))))) .d)))
theorem g212E (R : Idl.Callee) (L : Nat) : funT Tryz.prog R L Tryz.f212 g212A [.v, .i .i32] = g212 R L := by kernel_rfl
end
end Go.Proofs.YtpddlhbhpncfaaaGreat
