/- Typed forms of functions, printed by a program of our own. -/
import Derived.Test.YtpddlhbhpncfaaaGreatProg
import Derived.KernelRfl
import Derived.Test.YtpddlhbhpncfaaaGreatIa5
namespace Go.Proofs.YtpddlhbhpncfaaaGreat
open Go Go.Idl
set_option linter.unusedVariables false
noncomputable section
/-- incipit/induce.named -/
def g151 (R : Idl.Callee) (L : Nat) : JT [.v, .v] := fun (text1 : Value) (order1 : Value) (s1 : Heap) =>
  (callJ [.v] R (.fn 174 #[text1]) s1 fun (r1 : Value) (s2 : Heap) =>
  newO (.map []) s2 fun id1 s3 =>
  lenV order1 fun n1 =>
  loopN (botJ [.v, .v, .v, .i .i64, .v, .v, .i .i64, .i .i64]) (fun self1 => fun (text2 : Value) (p1 : Value) (names1 : Value) (n2 : Int) (ahead1 : Value) (t1 : Value) (t2 : Int) (t3 : Int) (s4 : Heap) =>
  cndT (cmpI .lss t3 t2) (joinK (fun (text3 : Value) (p2 : Value) (names2 : Value) (n3 : Int) (ahead2 : Value) (t4 : Value) (t5 : Int) (t6 : Int) (s5 : Heap) =>
  arI .add .i64 t6 1 fun t7 =>
  self1 text3 p2 names2 n3 ahead2 t4 t5 t7 s5) fun J1 =>
  idxS 1 t1 t3 fun p3 =>
  ldI .i64 p3 s4 fun t8 =>
  lk2 Tryz.prog 209 p1 .i64 t8 (.v) s4 fun (t9 : Value) (ok1 : Bool) (_ : Heap) =>
  cndT (!ok1) (J1 text2 p1 names1 n2 ahead1 t1 t2 t3 s4) (joinK (fun (text4 : Value) (p4 : Value) (names3 : Value) (n4 : Int) (i1 : Int) (x1 : Value) (t10 : Value) (t11 : Int) (t12 : Int) (s6 : Heap) =>
  arI .sub .i64 n4 1 fun t13 =>
  byH (mapUpdA Tryz.prog s6 211 names3 (.int .i64 i1) (.int .i64 t13)) fun s7 =>
  J1 text4 p4 names3 n4 x1 t10 t11 t12 s7) fun J2 =>
  joinK (fun (text5 : Value) (p5 : Value) (names4 : Value) (n5 : Int) (i2 : Int) (x2 : Value) (t14 : Value) (t15 : Int) (t16 : Int) (t17 : Bool) (s8 : Heap) =>
  cndT t17 (arI .add .i64 n5 1 fun t18 =>
  J2 text5 p5 names4 t18 i2 x2 t14 t15 t16 s8) (J2 text5 p5 names4 n5 i2 x2 t14 t15 t16 s8)) fun J3 =>
  cndT (cmpI .eql n2 0) (J3 text2 p1 names1 n2 t8 t9 t1 t2 t3 true s4) ((callJ [.b] R (.fn 96 #[t9, ahead1]) s4 fun (r2 : Bool) (s9 : Heap) =>
  J3 text2 p1 names1 n2 t8 t9 t1 t2 t3 (!r2) s9)))) ((callJ [.v, .i .i64] R (.fn 132 #[text2]) s4 fun (r3 : Value) (r4 : Int) (s10 : Heap) =>
  lenV r3 fun n6 =>
  loopN (botJ [.v, .i .i64, .v, .v, .i .i64, .i .i64]) (fun self2 => fun (names5 : Value) (n7 : Int) (out1 : Value) (t19 : Value) (t20 : Int) (t21 : Int) (s11 : Heap) =>
  cndT (cmpI .lss t21 t20) (idxS 1 t19 t21 fun p6 =>
  ldI .i64 p6 s11 fun t22 =>
  lk1 Tryz.prog 211 names5 .i64 t22 (.i .i64) s11 fun (t23 : Int) (_ : Heap) =>
  newO (mkRow [(.int .i64 t23)]) s11 fun id2 s12 =>
  appS Tryz.prog 1 8 [.int .i64 0] (some 45) out1 ((.slice (some ⟨id2, 0, none⟩) 1 1)) s12 fun t24 s13 =>
  arI .add .i64 t21 1 fun t25 =>
  self2 names5 n7 t24 t19 t20 t25 s13) (some ((.tuple #[out1, .int .i64 n7]), s11))) L names1 n2 (.slice none 0 0) r3 n6 0 s10))) L text1 r1 (.map (some id1)) 0 (.slice none 0 0) order1 n1 0 s3)
def g151A : Ann := (.s .d (.s .d (.s .d (.s .d (.s .d (.s (.s .d (.b (.l [(0, .v), (6, .v), (7, .v), (8, .i .i64), (9, .v), (22, .v), (23, .i .i64), (24, .i .i64)] (.s .d (.s (.c .d .d) (.j [(0, .v), (6, .v), (7, .v), (8, .i .i64), (9, .v), (22, .v), (23, .i .i64), (24, .i .i64)] (.b (.s .d (.s .d (.s (.s .d (.c .d .d)) (.j [(0, .v), (6, .v), (7, .v), (8, .i .i64), (11, .i .i64), (12, .v), (22, .v), (23, .i .i64), (24, .i .i64)] (.j [(0, .v), (6, .v), (7, .v), (8, .i .i64), (11, .i .i64), (12, .v), (22, .v), (23, .i .i64), (24, .i .i64), (43, .b)] .d (.c .d .d)) .d))))) .d)))))) (.s .d (.s .d (.s (.s .d (.b (.l [(7, .v), (8, .i .i64), (16, .v), (57, .v), (58, .i .i64), (59, .i .i64)] (.s .d (.s (.c .d .d) (.s (.b (.s .d .d)) .d)))))) (.s .d .d))))))))))
theorem g151E (R : Idl.Callee) (L : Nat) : funT Tryz.prog R L Tryz.f151 g151A [.v, .v] = g151 R L := by kernel_rfl
/-- incipit/suffix.Kinds -/
def g152 (R : Idl.Callee) (L : Nat) : JT [.v] := fun (text1 : Value) (s1 : Heap) =>
  (callJ [.i .i64] R (.fn 90 #[text1]) s1 fun (r1 : Int) (s2 : Heap) =>
  cndT (cmpI .neq r1 0) (some ((.tuple #[(.slice none 0 0), .int .i64 r1]), s2)) ((callJ [.v] R (.fn 175 #[text1]) s2 fun (r2 : Value) (s3 : Heap) =>
  some ((.tuple #[r2, .int .i64 0]), s3))))
def g152A : Ann := (.s .d (.s (.s .d (.s .d (.c (.s .d .d) .d))) (.s .d .d)))
theorem g152E (R : Idl.Callee) (L : Nat) : funT Tryz.prog R L Tryz.f152 g152A [.v] = g152 R L := by kernel_rfl
/-- slices.Collect[int] -/
def g153 (R : Idl.Callee) (L : Nat) : JT [.v] := fun (seq1 : Value) (s1 : Heap) =>
  (callJ [.v] R (.fn 176 #[(.slice none 0 0), seq1]) s1 fun (r1 : Value) (s2 : Heap) =>
  some (r1, s2))
def g153A : Ann := (.s .d (.s .d .d))
theorem g153E (R : Idl.Callee) (L : Nat) : funT Tryz.prog R L Tryz.f153 g153A [.v] = g153 R L := by kernel_rfl
/-- slices.Values[[]int,int]$1 -/
def g154 (R : Idl.Callee) (L : Nat) : JT [.v, .v] := fun (yield1 : Value) (t1 : Value) (s1 : Heap) =>
  ldV t1 s1 fun t2 =>
  lenV t2 fun n1 =>
  loopN (botJ [.v, .v, .i .i64, .i .i64]) (fun self1 => fun (yield2 : Value) (t3 : Value) (t4 : Int) (t5 : Int) (s2 : Heap) =>
  cndT (cmpI .lss t5 t4) (idxS 1 t3 t5 fun p1 =>
  ldI .i64 p1 s2 fun t6 =>
  fnOf yield2 [.int .i64 t6] fun tg1 =>
  (callJ [.b] R tg1 s2 fun (r1 : Bool) (s3 : Heap) =>
  cndT (!r1) (some ((.tuple #[]), s3)) (arI .add .i64 t5 1 fun t7 =>
  self1 yield2 t3 t4 t7 s3))) (some ((.tuple #[]), s2))) L yield1 t2 n1 0 s1
def g154A : Ann := (.s .d (.b (.l [(0, .v), (5, .v), (6, .i .i64), (7, .i .i64)] (.s .d (.s (.c .d .d) (.s (.b (.s .d (.s .d (.c .d .d)))) .d))))))
theorem g154E (R : Idl.Callee) (L : Nat) : funT Tryz.prog R L Tryz.f154 g154A [.v, .v] = g154 R L := by kernel_rfl
/-- slices.Repeat[[]int,int] -/
def g155 (R : Idl.Callee) (L : Nat) : JT [.v, .i .i64] := fun (x1 : Value) (count1 : Int) (s1 : Heap) =>
  joinK (fun (x2 : Value) (count2 : Int) (s2 : Heap) =>
  lenV x2 fun n1 =>
  bdI (wr .u64 n1) fun t1 =>
  bdI (wr .u64 count2) fun t2 =>
  (callJ [.i .u64, .i .u64] R (.fn 177 #[.int .u64 t1, .int .u64 t2]) s2 fun (r1 : Int) (r2 : Int) (s3 : Heap) =>
  joinK (fun (x3 : Value) (lo1 : Int) (s4 : Heap) =>
  bdI (wr .i64 lo1) fun t3 =>
  mslT [.int .i64 0] 1 8 t3 t3 fun ob1 len1 cap1 =>
  newO ob1 s4 fun id1 s5 =>
  copS 1 (.slice (some ⟨id1, 0, none⟩) len1 cap1) x3 s5 fun n2 s6 =>
  loopN (botJ [.v, .i .i64]) (fun self1 => fun (newslice1 : Value) (n3 : Int) (s7 : Heap) =>
  lenV newslice1 fun n4 =>
  cndT (cmpI .lss n3 n4) (heH 10 s7 fun base1 s8 =>
  slcV 1 newslice1 (some n3) none none fun t4 =>
  slcV 1 newslice1 none (some n3) none fun t5 =>
  copS 1 t4 t5 s8 fun n5 s9 =>
  arI .add .i64 n3 n5 fun t6 =>
  self1 newslice1 t6 s9) (some (newslice1, s7))) L (.slice (some ⟨id1, 0, none⟩) len1 cap1) n2 s6) fun J2 =>
  joinK (fun (x4 : Value) (lo2 : Int) (t7 : Bool) (s10 : Heap) =>
  cndT t7 (none) (J2 x4 lo2 s10)) fun J3 =>
  cndT (cmpI .gtr r1 0) (J3 x2 r2 true s3) (J3 x2 r2 (cmpI .gtr r2 9223372036854775807) s3))) fun J1 =>
  cndT (cmpI .lss count1 0) (none) (J1 x1 count1 s1)
def g155A : Ann := (.s .d (.j [(0, .v), (1, .i .i64)] (.s .d (.c .d .d)) (.s .d (.j [(0, .v), (6, .i .u64)] (.j [(0, .v), (6, .i .u64), (26, .b)] .d (.c .d .d)) (.s .d (.s .d (.s (.b (.l [(7, .v), (8, .i .i64)] (.s (.s .d (.c .d .d)) (.b .d)))) (.s .d .d))))))))
theorem g155E (R : Idl.Callee) (L : Nat) : funT Tryz.prog R L Tryz.f155 g155A [.v, .i .i64] = g155 R L := by kernel_rfl
/-- (*incipit/induce.state).larger -/
def g157 (R : Idl.Callee) (L : Nat) : JT [.v] := fun (s1 : Value) (s2 : Heap) =>
  nchk s1 fun p1 =>
  fldP p1 0 fun p2 =>
  ldV p2 s2 fun t1 =>
  (callJ [.v, .v] R (.fn 178 #[t1]) s2 fun (r1 : Value) (r2 : Value) (s3 : Heap) =>
  nchk s1 fun p3 =>
  fldP p3 2 fun p4 =>
  ldV p4 s3 fun t2 =>
  lenV t2 fun n1 =>
  loopN (botJ [.v, .v, .i .i64, .i .i64]) (fun self1 => fun (s4 : Value) (heads1 : Value) (t3 : Int) (t4 : Int) (s5 : Heap) =>
  cndT (cmpI .lss t4 t3) (joinK (fun (s6 : Value) (heads2 : Value) (t5 : Int) (t6 : Int) (s7 : Heap) =>
  arI .add .i64 t6 1 fun t7 =>
  self1 s6 heads2 t5 t7 s7) fun J1 =>
  nchk s4 fun p5 =>
  fldP p5 2 fun p6 =>
  ldV p6 s5 fun t8 =>
  idxS 1 t8 t4 fun p7 =>
  ldI .i64 p7 s5 fun t9 =>
  arI .sub .i64 t9 1 fun t10 =>
  joinK (fun (s8 : Value) (heads3 : Value) (i1 : Int) (t11 : Int) (t12 : Int) (t13 : Bool) (s9 : Heap) =>
  cndT t13 (J1 s8 heads3 t11 t12 s9) (heH 17 s9 fun base1 s10 =>
  nchk s8 fun p8 =>
  fldP p8 2 fun p9 =>
  ldV p9 s10 fun t14 =>
  nchk s8 fun p10 =>
  fldP p10 0 fun p11 =>
  ldV p11 s10 fun t15 =>
  idxS 1 t15 i1 fun p12 =>
  ldI .i64 p12 s10 fun t16 =>
  idxS 1 heads3 t16 fun p13 =>
  ldI .i64 p13 s10 fun t17 =>
  idxS 1 t14 t17 fun p14 =>
  stN 1 p14 [(.int .i64 i1)] s10 fun s11 =>
  nchk s8 fun p15 =>
  fldP p15 0 fun p16 =>
  ldV p16 s11 fun t18 =>
  idxS 1 t18 i1 fun p17 =>
  ldI .i64 p17 s11 fun t19 =>
  idxS 1 heads3 t19 fun p18 =>
  ldI .i64 p18 s11 fun t20 =>
  arI .add .i64 t20 1 fun t21 =>
  idxS 1 heads3 t19 fun p19 =>
  stN 1 p19 [(.int .i64 t21)] s11 fun s12 =>
  J1 s8 heads3 t11 t12 s12)) fun J2 =>
  cndT (cmpI .lss t10 0) (J2 s4 heads1 t10 t3 t4 true s5) (nchk s4 fun p20 =>
  fldP p20 1 fun p21 =>
  ldV p21 s5 fun t22 =>
  idxS 1 t22 t10 fun p22 =>
  ldB p22 s5 fun t23 =>
  J2 s4 heads1 t10 t3 t4 t23 s5)) (some ((.tuple #[]), s5))) L s1 r1 n1 0 s3)
def g157A : Ann := (.s .d (.s .d (.s .d (.b (.l [(0, .v), (2, .v), (18, .i .i64), (19, .i .i64)] (.s .d (.s (.c .d .d) (.j [(0, .v), (2, .v), (18, .i .i64), (19, .i .i64)] (.b (.s .d (.s .d (.s (.j [(0, .v), (2, .v), (5, .i .i64), (18, .i .i64), (19, .i .i64), (40, .b)] .d (.c .d .d)) (.s .d .d))))) .d))))))))
theorem g157E (R : Idl.Callee) (L : Nat) : funT Tryz.prog R L Tryz.f157 g157A [.v] = g157 R L := by kernel_rfl
/-- (*incipit/induce.state).clear -/
def g158 (R : Idl.Callee) (L : Nat) : JT [.v] := fun (s1 : Value) (s2 : Heap) =>
  nchk s1 fun p1 =>
  fldP p1 2 fun p2 =>
  ldV p2 s2 fun t1 =>
  lenV t1 fun n1 =>
  loopN (botJ [.v, .v, .i .i64, .i .i64]) (fun self1 => fun (s3 : Value) (t2 : Value) (t3 : Int) (t4 : Int) (s4 : Heap) =>
  cndT (cmpI .lss t4 t3) (joinK (fun (s5 : Value) (t5 : Value) (t6 : Int) (t7 : Int) (s6 : Heap) =>
  arI .add .i64 t7 1 fun t8 =>
  self1 s5 t5 t6 t8 s6) fun J1 =>
  idxS 1 t2 t4 fun p3 =>
  ldI .i64 p3 s4 fun t9 =>
  joinK (fun (s7 : Value) (k1 : Int) (t10 : Value) (t11 : Int) (t12 : Int) (t13 : Bool) (s8 : Heap) =>
  cndT t13 (nchk s7 fun p4 =>
  fldP p4 2 fun p5 =>
  ldV p5 s8 fun t14 =>
  idxS 1 t14 k1 fun p6 =>
  stN 1 p6 [(.int .i64 (-1))] s8 fun s9 =>
  J1 s7 t10 t11 t12 s9) (J1 s7 t10 t11 t12 s8)) fun J2 =>
  cndT (cmpI .neq t9 (-1)) ((callJ [.i .i64] R (.fn 179 #[s3]) s4 fun (r1 : Int) (s10 : Heap) =>
  cndT (cmpI .neq t9 r1) (nchk s3 fun p7 =>
  fldP p7 1 fun p8 =>
  ldV p8 s10 fun t15 =>
  idxS 1 t15 t9 fun p9 =>
  ldB p9 s10 fun t16 =>
  J2 s3 t4 t2 t3 t4 t16 s10) (J2 s3 t4 t2 t3 t4 false s10))) (J2 s3 t4 t2 t3 t4 false s4)) (some ((.tuple #[]), s4))) L s1 t1 n1 0 s2
def g158A : Ann := (.s .d (.b (.l [(0, .v), (7, .v), (8, .i .i64), (9, .i .i64)] (.s .d (.s (.c .d .d) (.j [(0, .v), (7, .v), (8, .i .i64), (9, .i .i64)] (.b (.s .d (.j [(0, .v), (2, .i .i64), (7, .v), (8, .i .i64), (9, .i .i64), (30, .b)] .d (.c .d .d)))) .d))))))
theorem g158E (R : Idl.Callee) (L : Nat) : funT Tryz.prog R L Tryz.f158 g158A [.v] = g158 R L := by kernel_rfl
/-- (*incipit/induce.state).smaller -/
def g159 (R : Idl.Callee) (L : Nat) : JT [.v] := fun (s1 : Value) (s2 : Heap) =>
  nchk s1 fun p1 =>
  fldP p1 0 fun p2 =>
  ldV p2 s2 fun t1 =>
  (callJ [.v, .v] R (.fn 178 #[t1]) s2 fun (r1 : Value) (r2 : Value) (s3 : Heap) =>
  nchk s1 fun p3 =>
  fldP p3 2 fun p4 =>
  ldV p4 s3 fun t2 =>
  lenV t2 fun n1 =>
  arI .sub .i64 n1 1 fun t3 =>
  loopN (botJ [.v, .v, .i .i64]) (fun self1 => fun (s4 : Value) (tails1 : Value) (k1 : Int) (s5 : Heap) =>
  cndT (cmpI .geq k1 0) (joinK (fun (s6 : Value) (tails2 : Value) (k2 : Int) (s7 : Heap) =>
  arI .sub .i64 k2 1 fun t4 =>
  self1 s6 tails2 t4 s7) fun J1 =>
  nchk s4 fun p5 =>
  fldP p5 2 fun p6 =>
  ldV p6 s5 fun t5 =>
  idxS 1 t5 k1 fun p7 =>
  ldI .i64 p7 s5 fun t6 =>
  arI .sub .i64 t6 1 fun t7 =>
  joinK (fun (s8 : Value) (tails3 : Value) (k3 : Int) (i1 : Int) (t8 : Bool) (s9 : Heap) =>
  cndT t8 (J1 s8 tails3 k3 s9) (nchk s8 fun p8 =>
  fldP p8 0 fun p9 =>
  ldV p9 s9 fun t9 =>
  idxS 1 t9 i1 fun p10 =>
  ldI .i64 p10 s9 fun t10 =>
  idxS 1 tails3 t10 fun p11 =>
  ldI .i64 p11 s9 fun t11 =>
  arI .sub .i64 t11 1 fun t12 =>
  idxS 1 tails3 t10 fun p12 =>
  stN 1 p12 [(.int .i64 t12)] s9 fun s10 =>
  heH 17 s10 fun base1 s11 =>
  nchk s8 fun p13 =>
  fldP p13 2 fun p14 =>
  ldV p14 s11 fun t13 =>
  nchk s8 fun p15 =>
  fldP p15 0 fun p16 =>
  ldV p16 s11 fun t14 =>
  idxS 1 t14 i1 fun p17 =>
  ldI .i64 p17 s11 fun t15 =>
  idxS 1 tails3 t15 fun p18 =>
  ldI .i64 p18 s11 fun t16 =>
  idxS 1 t13 t16 fun p19 =>
  stN 1 p19 [(.int .i64 i1)] s11 fun s12 =>
  J1 s8 tails3 k3 s12)) fun J2 =>
  cndT (cmpI .lss t7 0) (J2 s4 tails1 k1 t7 true s5) (nchk s4 fun p20 =>
  fldP p20 1 fun p21 =>
  ldV p21 s5 fun t17 =>
  idxS 1 t17 t7 fun p22 =>
  ldB p22 s5 fun t18 =>
  J2 s4 tails1 k1 t7 (!t18) s5)) (some ((.tuple #[]), s5))) L s1 r2 t3 s3)
def g159A : Ann := (.s .d (.s .d (.s .d (.b (.l [(0, .v), (3, .v), (4, .i .i64)] (.s (.s .d (.c .d .d)) (.j [(0, .v), (3, .v), (4, .i .i64)] (.b (.s .d (.s (.j [(0, .v), (3, .v), (4, .i .i64), (5, .i .i64), (43, .b)] .d (.c .d .d)) (.s .d .d)))) .d)))))))
theorem g159E (R : Idl.Callee) (L : Nat) : funT Tryz.prog R L Tryz.f159 g159A [.v] = g159 R L := by kernel_rfl
/-- incipit/alpha.made -/
def g160 (R : Idl.Callee) (L : Nat) : JT [.v, .v] := fun (symbols1 : Value) (counts1 : Value) (s1 : Heap) =>
  newO (mkRow [(.int .i64 0)]) s1 fun id1 s2 =>
  newO (mkRow [symbols1, counts1, (.slice (some ⟨id1, 0, none⟩) 1 1)]) s2 fun id2 s3 =>
  lenV counts1 fun n1 =>
  loopN (botJ [.v, .v, .i .i64, .i .i64]) (fun self1 => fun (t1 : Value) (t2 : Value) (t3 : Int) (t4 : Int) (s4 : Heap) =>
  cndT (cmpI .lss t4 t3) (idxS 1 t2 t4 fun p1 =>
  ldI .i64 p1 s4 fun t5 =>
  heH 19 s4 fun base1 s5 =>
  nchk t1 fun p2 =>
  fldP p2 2 fun p3 =>
  ldV p3 s5 fun t6 =>
  nchk t1 fun p4 =>
  fldP p4 2 fun p5 =>
  ldV p5 s5 fun t7 =>
  idxS 1 t7 t4 fun p6 =>
  ldI .i64 p6 s5 fun t8 =>
  arI .add .i64 t8 t5 fun t9 =>
  puO base1 [(14, (mkRow [(.int .i64 t9)]))] s5 fun s6 =>
  appS Tryz.prog 1 8 [.int .i64 0] (some 45) t6 ((.slice (some ⟨(Nat.add base1 14), 0, none⟩) 1 1)) s6 fun t10 s7 =>
  nchk t1 fun p7 =>
  fldP p7 2 fun p8 =>
  stN 1 p8 [t10] s7 fun s8 =>
  arI .add .i64 t4 1 fun t11 =>
  self1 t1 t2 t3 t11 s8) (some (t1, s4))) L (ptrTo id2) counts1 n1 0 s3
def g160A : Ann := (.s .d (.s .d (.s (.s .d (.b (.l [(5, .v), (13, .v), (14, .i .i64), (15, .i .i64)] (.s .d (.s (.c .d .d) (.s (.b (.s .d .d)) .d)))))) (.s .d .d))))
theorem g160E (R : Idl.Callee) (L : Nat) : funT Tryz.prog R L Tryz.f160 g160A [.v, .v] = g160 R L := by kernel_rfl
/-- incipit/alpha.mapped[int,int] -/
def g161 (R : Idl.Callee) (L : Nat) : JT [.v, .v] := fun (l1 : Value) (one1 : Value) (s1 : Heap) =>
  lenV l1 fun n1 =>
  loopN (botJ [.v, .v, .v, .i .i64, .i .i64]) (fun self1 => fun (one2 : Value) (out1 : Value) (t1 : Value) (t2 : Int) (t3 : Int) (s2 : Heap) =>
  cndT (cmpI .lss t3 t2) (idxS 1 t1 t3 fun p1 =>
  ldI .i64 p1 s2 fun t4 =>
  fnOf one2 [.int .i64 t4] fun tg1 =>
  (callJ [.i .i64, .i .i64] R tg1 s2 fun (r1 : Int) (r2 : Int) (s3 : Heap) =>
  cndT (cmpI .neq r2 0) (some ((.tuple #[(.slice none 0 0), .int .i64 r2]), s3)) (newO (mkRow [(.int .i64 r1)]) s3 fun id1 s4 =>
  appS Tryz.prog 1 8 [.int .i64 0] (some 45) out1 ((.slice (some ⟨id1, 0, none⟩) 1 1)) s4 fun t5 s5 =>
  arI .add .i64 t3 1 fun t6 =>
  self1 one2 t5 t1 t2 t6 s5))) (some ((.tuple #[out1, .int .i64 0]), s2))) L one1 (.slice none 0 0) l1 n1 0 s1
def g161A : Ann := (.s .d (.s .d (.s (.s .d (.b (.l [(1, .v), (6, .v), (11, .v), (12, .i .i64), (13, .i .i64)] (.s .d (.s (.c .d .d) (.s (.b (.s .d (.s .d (.s (.s .d (.c (.s .d .d) .d)) .d)))) .d)))))) (.s .d .d))))
theorem g161E (R : Idl.Callee) (L : Nat) : funT Tryz.prog R L Tryz.f161 g161A [.v, .v] = g161 R L := by kernel_rfl
/-- (*incipit/alpha.Table).Codes$1 -/
def g162 (R : Idl.Callee) (L : Nat) : JT [.i .i64, .v] := fun (s1 : Int) (t1 : Value) (s2 : Heap) =>
  ldV t1 s2 fun t2 =>
  (callJ [.i .i64, .i .i64] R (.fn 33 #[t2, .int .i64 s1]) s2 fun (r1 : Int) (r2 : Int) (s3 : Heap) =>
  some ((.tuple #[.int .i64 r1, .int .i64 r2]), s3))
def g162A : Ann := (.s .d (.s .d .d))
theorem g162E (R : Idl.Callee) (L : Nat) : funT Tryz.prog R L Tryz.f162 g162A [.i .i64, .v] = g162 R L := by kernel_rfl
/-- incipit/bwt.Turn -/
def g163 (R : Idl.Callee) (L : Nat) : JT [.v, .v] := fun (text1 : Value) (order1 : Value) (s1 : Heap) =>
  (callJ [.i .i64] R (.fn 90 #[text1]) s1 fun (r1 : Int) (s2 : Heap) =>
  cndT (cmpI .neq r1 0) (some ((.tuple #[(.slice none 0 0), .int .i64 r1]), s2)) ((callJ [.b] R (.fn 97 #[text1, order1]) s2 fun (r2 : Bool) (s3 : Heap) =>
  cndT (!r2) (some ((.tuple #[(.slice none 0 0), .int .i64 3]), s3)) (lenV text1 fun n1 =>
  mslT [.int .i64 0] 1 8 n1 n1 fun ob1 len1 cap1 =>
  newO ob1 s3 fun id1 s4 =>
  lenV order1 fun n2 =>
  loopN (botJ [.v, .i .i64, .v, .v, .i .i64, .i .i64]) (fun self1 => fun (text2 : Value) (n3 : Int) (out1 : Value) (t1 : Value) (t2 : Int) (t3 : Int) (s5 : Heap) =>
  cndT (cmpI .lss t3 t2) (idxS 1 t1 t3 fun p1 =>
  ldI .i64 p1 s5 fun t4 =>
  arI .add .i64 t4 n3 fun t5 =>
  arI .sub .i64 t5 1 fun t6 =>
  arI .rem .i64 t6 n3 fun t7 =>
  idxS 1 text2 t7 fun p2 =>
  ldI .i64 p2 s5 fun t8 =>
  idxS 1 out1 t3 fun p3 =>
  stN 1 p3 [(.int .i64 t8)] s5 fun s6 =>
  arI .add .i64 t3 1 fun t9 =>
  self1 text2 n3 out1 t1 t2 t9 s6) (some ((.tuple #[out1, .int .i64 0]), s5))) L text1 n1 (.slice (some ⟨id1, 0, none⟩) len1 cap1) order1 n2 0 s4))))
def g163A : Ann := (.s .d (.s (.s .d (.s .d (.c (.s .d .d) .d))) (.s (.s .d (.c (.s .d .d) .d)) (.s .d (.s .d (.s (.s .d (.b (.l [(0, .v), (7, .i .i64), (8, .v), (24, .v), (25, .i .i64), (26, .i .i64)] (.s .d (.s (.c .d .d) (.s (.b (.s .d .d)) .d)))))) (.s .d .d)))))))
theorem g163E (R : Idl.Callee) (L : Nat) : funT Tryz.prog R L Tryz.f163 g163A [.v, .v] = g163 R L := by kernel_rfl
/-- incipit/packed.Width -/
def g164 (R : Idl.Callee) (L : Nat) : JT [.i .i64] := fun (greatest1 : Int) (s1 : Heap) =>
  bdI (wr .u64 greatest1) fun t1 =>
  (callJ [.i .i64] R (.fn 79 #[.int .u64 t1]) s1 fun (r1 : Int) (s2 : Heap) =>
  bdI (maxI r1 1) fun t2 =>
  joinK (fun (n1 : Int) (t3 : Bool) (s3 : Heap) =>
  cndT t3 (some (.int .i64 0, s3)) (some (.int .i64 n1, s3))) fun J1 =>
  cndT (cmpI .lss greatest1 0) (J1 t2 true s2) (J1 t2 (cmpI .gtr t2 31) s2))
def g164A : Ann := (.s .d (.s .d (.s (.j [(3, .i .i64), (13, .b)] .d (.c (.s .d .d) .d)) (.s .d .d))))
theorem g164E (R : Idl.Callee) (L : Nat) : funT Tryz.prog R L Tryz.f164 g164A [.i .i64] = g164 R L := by kernel_rfl
/-- incipit/wavelet.New -/
def g165 (R : Idl.Callee) (L : Nat) : JT [.i .i64, .v] := fun (width1 : Int) (codes1 : Value) (s1 : Heap) =>
  newO (mkRow [(.int .i64 width1)]) s1 fun id1 s2 =>
  joinK (fun (codes2 : Value) (width2 : Value) (t1 : Bool) (s3 : Heap) =>
  cndT t1 (some ((.tuple #[(.pointer none), .int .i64 1]), s3)) (lenV codes2 fun n1 =>
  cndT (cmpI .gtr n1 65536) (some ((.tuple #[(.pointer none), .int .i64 2]), s3)) ((callJ [.b] R (.fn 23 #[codes2, (.func (.func 180) #[] #[width2])]) s3 fun (r1 : Bool) (s4 : Heap) =>
  cndT r1 (some ((.tuple #[(.pointer none), .int .i64 10]), s4)) (lenV codes2 fun n2 =>
  newO (mkRow [(.int .i64 n2), .slice none 0 0]) s4 fun id2 s5 =>
  (callJ [.v] R (.fn 127 #[codes2]) s5 fun (r2 : Value) (s6 : Heap) =>
  ldI .i64 width2 s6 fun t2 =>
  arI .sub .i64 t2 1 fun t3 =>
  newO (mkRow [.int .i64 0]) s6 fun id3 s7 =>
  stN 1 (ptrTo id3) [(.int .i64 t3)] s7 fun s8 =>
  loopN (botJ [.v, .v, .v]) (fun self1 => fun (m1 : Value) (l1 : Value) (bit1 : Value) (s9 : Heap) =>
  ldI .i64 bit1 s9 fun t4 =>
  cndT (cmpI .geq t4 0) (newO (mkRow [.nilFunc]) s9 fun id4 s10 =>
  stN 1 (ptrTo id4) [(.func (.func 181) #[] #[bit1])] s10 fun s11 =>
  lenV l1 fun n3 =>
  mslT [.bool false] 1 1 n3 n3 fun ob1 len1 cap1 =>
  newO ob1 s11 fun id5 s12 =>
  lenV l1 fun n4 =>
  loopN (botJ [.v, .v, .v, .v, .v, .v, .i .i64, .i .i64]) (fun self2 => fun (m2 : Value) (l2 : Value) (bit2 : Value) (one1 : Value) (row1 : Value) (t5 : Value) (t6 : Int) (t7 : Int) (s13 : Heap) =>
  cndT (cmpI .lss t7 t6) (idxS 1 t5 t7 fun p1 =>
  ldI .i64 p1 s13 fun t8 =>
  ldV one1 s13 fun t9 =>
  fnOf t9 [.int .i64 t8] fun tg1 =>
  (callJ [.b] R tg1 s13 fun (r3 : Bool) (s14 : Heap) =>
  idxS 1 row1 t7 fun p2 =>
  stN 1 p2 [(.bool r3)] s14 fun s15 =>
  arI .add .i64 t7 1 fun t10 =>
  self2 m2 l2 bit2 one1 row1 t5 t6 t10 s15)) ((callJ [.v, .i .i64] R (.fn 182 #[row1]) s13 fun (r4 : Value) (r5 : Int) (s16 : Heap) =>
  nchk m2 fun p3 =>
  fldP p3 1 fun p4 =>
  ldV p4 s16 fun t11 =>
  newO (mkRow [r4]) s16 fun id6 s17 =>
  appS Tryz.prog 1 8 [.pointer none] (some 131) t11 ((.slice (some ⟨id6, 0, none⟩) 1 1)) s17 fun t12 s18 =>
  nchk m2 fun p5 =>
  fldP p5 1 fun p6 =>
  stN 1 p6 [t12] s18 fun s19 =>
  heH 5 s19 fun base1 s20 =>
  (callJ [.v] R (.fn 127 #[l2]) s20 fun (r6 : Value) (s21 : Heap) =>
  ldV one1 s20 fun t13 =>
  ldV one1 s21 fun t14 =>
  cndT (sameTV (.v t14) (.v t13)) ((callJ [.v] R (.fn 183 #[r6, t13]) s21 fun (r7 : Value) (s22 : Heap) =>
  (callJ [.v] R (.fn 127 #[l2]) s22 fun (r8 : Value) (s23 : Heap) =>
  (callJ [.v] R (.fn 183 #[r8, (.func (.func 184) #[] #[one1])]) s23 fun (r9 : Value) (s24 : Heap) =>
  newO (mkRow [r7, r9]) s24 fun id7 s25 =>
  (callJ [.v] R (.fn 185 #[(.slice (some ⟨id7, 0, none⟩) 2 2)]) s25 fun (r10 : Value) (s26 : Heap) =>
  ldI .i64 bit2 s26 fun t15 =>
  newO (mkRow [.int .i64 0]) s26 fun id8 s27 =>
  stN 1 (ptrTo id8) [(.int .i64 t15)] s27 fun s28 =>
  ldI .i64 (ptrTo id8) s28 fun t16 =>
  arI .sub .i64 t16 1 fun t17 =>
  stN 1 (ptrTo id8) [(.int .i64 t17)] s28 fun s29 =>
  self1 m2 r10 (ptrTo id8) s29))))) (none))))) L m1 l1 bit1 (ptrTo id4) (.slice (some ⟨id5, 0, none⟩) len1 cap1) l1 n4 0 s12) (some ((.tuple #[m1, .int .i64 0]), s9))) L (ptrTo id2) r2 (ptrTo id3) s8)))))) fun J1 =>
  ldI .i64 (ptrTo id1) s2 fun t18 =>
  cndT (cmpI .lss t18 1) (J1 codes1 (ptrTo id1) true s2) (ldI .i64 (ptrTo id1) s2 fun t19 =>
  J1 codes1 (ptrTo id1) (cmpI .gtr t19 16) s2)
def g165A : Ann := (.s .d (.s (.b (.j [(1, .v), (2, .v), (17, .b)] .d (.c (.s .d .d) (.s .d (.c (.s .d .d) (.s .d (.c (.s .d .d) .d))))))) (.s .d (.s .d (.s (.s .d (.b (.l [(6, .v), (7, .v), (8, .v)] (.s (.s .d (.c .d .d)) (.s (.b (.s .d (.s .d (.s (.s .d (.b (.l [(6, .v), (7, .v), (8, .v), (9, .v), (10, .v), (48, .v), (49, .i .i64), (50, .i .i64)] (.s .d (.s (.c .d .d) (.s (.b (.s .d .d)) .d)))))) (.s .d (.s .d (.s .d (.s .d .d)))))))) (.s (.s .d .d) .d)))))) (.s .d .d))))))
theorem g165E (R : Idl.Callee) (L : Nat) : funT Tryz.prog R L Tryz.f165 g165A [.i .i64, .v] = g165 R L := by kernel_rfl
/-- incipit/rank.Of$1 -/
def g166 (R : Idl.Callee) (L : Nat) : JT [.i .i64, .v] := fun (i1 : Int) (t1 : Value) (s1 : Heap) =>
  cndT (cmpI .lss i1 0) (some (.bool true, s1)) (ldI .i64 t1 s1 fun t2 =>
  some (.bool (cmpI .geq i1 t2), s1))
def g166A : Ann := (.s .d (.s .d .d))
theorem g166E (R : Idl.Callee) (L : Nat) : funT Tryz.prog R L Tryz.f166 g166A [.i .i64, .v] = g166 R L := by kernel_rfl
end
end Go.Proofs.YtpddlhbhpncfaaaGreat
