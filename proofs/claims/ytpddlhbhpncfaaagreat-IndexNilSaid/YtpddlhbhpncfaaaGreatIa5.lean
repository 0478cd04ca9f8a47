/- An ideal machine of our own, and that it is right: part 5 of 5. -/
import GoSem.ClaimWide
import Derived.Test.YtpddlhbhpncfaaaGreatIa4
set_option linter.unusedVariables false
set_option linter.unusedSimpArgs false
/- The typed machine, part d: operations that only compute are right. -/
namespace Go.Idl
open Go
noncomputable section

theorem cst_ok (v : Value) : (cst v).OK v := by
  cases v <;> simp [cst, TV.OK, isAgg]
theorem evT_const {ρ : T TV} {e : Env} (h : OKE ρ e) (x : Operand) : (evT ρ x).OK (e x) := h x
theorem TV.ok_int {k : IntKind} {n : Int} {u : Value} (h : (TV.i k n).OK u) : u = .int k n := h
theorem TV.ok_b {c : Bool} {u : Value} (h : (TV.b c).OK u) : u = .bool c := h
theorem TV.ok_v {w u : Value} (h : (TV.v w).OK u) : u = w ∧ isAgg w = false := h
theorem TV.ok_a {l : List Value} {u : Value} (h : (TV.a l).OK u) : u = .agg l.toArray := h
theorem okv {w : Value} (h : isAgg w = false) : (TV.v w).OK w := ⟨rfl, h⟩
theorem cells_not {w : Value} (h : isAgg w = false) : w.cells = #[w] := by
  cases w <;> first | rfl | cases h
theorem cells_ok {x : TV} {u : Value} {l : List Value} (h : x.OK u) (hc : x.cells = some l) : u.cells = l.toArray := by
  cases x with
  | i k n => cases hc; rw [TV.ok_int h]; rfl
  | b c => cases hc; rw [TV.ok_b h]; rfl
  | v w => cases hc; obtain ⟨rfl, hw⟩ := h; exact cells_not hw
  | a m => cases hc; rw [TV.ok_a h]; rfl
  | tup l => cases hc
  | und => cases hc
  | bad => cases hc
theorem toVsT_ok : ∀ {l : List TV} {us : List Value} {vs : List Value}, (∀ (i : Nat) (x : TV) (u : Value), l[i]? = some x → us[i]? = some u → x.OK u) → l.length = us.length → toVsT l = some vs → vs = us
  | [], us, vs, _, hl, h => by
    have : us = [] := List.eq_nil_of_length_eq_zero (by simpa using hl.symm)
    subst this; cases h; rfl
  | x :: l, us, vs, ho, hl, h => by
    cases us with
    | nil => simp at hl
    | cons u us =>
      have h0 := ho 0 x u rfl rfl
      have ih : ∀ {ws : List Value}, toVsT l = some ws → ws = us := fun hw => toVsT_ok (fun i y z h1 h2 => ho (i + 1) y z (by simpa using h1) (by simpa using h2)) (by simpa using hl) hw
      have fin : ∀ (v : Value), v = u → (match toVsT l with | some ws => some (v :: ws) | none => none) = some vs → vs = u :: us := by
        intro v hv hh
        split at hh
        · rename_i ws hws; cases hh; rw [hv, ih hws]
        · cases hh
      cases x with
      | i k n => exact fin _ (TV.ok_int h0).symm h
      | b c => exact fin _ (TV.ok_b h0).symm h
      | v w => exact fin _ (TV.ok_v h0).1.symm h
      | a m => exact fin _ (TV.ok_a h0).symm h
      | tup l => cases h
      | und => cases h
      | bad => cases h
theorem map_at {ρ : T TV} {e : Env} (h : OKE ρ e) (l : List Operand) : ∀ (i : Nat) (x : TV) (u : Value), (l.map (evT ρ))[i]? = some x → (l.map e)[i]? = some u → x.OK u := by
  intro i x u h1 h2
  rw [List.getElem?_map] at h1 h2
  cases hl : l[i]? with
  | none => rw [hl] at h1; cases h1
  | some o => rw [hl] at h1 h2; cases h1; cases h2; exact h o
theorem map_ok {ρ : T TV} {e : Env} (h : OKE ρ e) {l : List Operand} {vs : List Value} (hv : toVsT (l.map (evT ρ)) = some vs) : vs = l.map e :=
  toVsT_ok (map_at h l) (by simp) hv

/-! ### the words, read backwards -/
variable {r : Value × Heap}
theorem fldP_some {p : Value} {off : Nat} {K : Value → Ans} (h : fldP p off K = some r) : ∃ b o, p = .pointer (some ⟨b, o, none⟩) ∧ K (.pointer (some ⟨b, o + off, none⟩)) = some r := by
  unfold fldP at h
  split at h
  · rename_i b o; rw [forceN_eq] at h; exact ⟨b, o, rfl, h⟩
  · cases h
theorem bif_get {c : Bool} {x : Ans} (h : (bif c then x else none) = some r) : c = true ∧ x = some r := by
  cases c with
  | true => exact ⟨rfl, h⟩
  | false => cases h
theorem bif_o {α : Type} {c : Bool} {x : Option α} {y : α} (h : (bif c then x else none) = some y) : c = true ∧ x = some y := by
  cases c with
  | true => exact ⟨rfl, h⟩
  | false => cases h
theorem idxS_some {n : Nat} {v : Value} {i : Int} {K : Value → Ans} (h : idxS n v i K = some r) :
    ∃ b o sp len cap j, v = .slice (some ⟨b, o, sp⟩) len cap ∧ i = .ofNat j ∧ Nat.blt j len = true ∧ K (.pointer (some ⟨b, o + j * n, none⟩)) = some r := by
  unfold idxS at h
  split at h
  · rename_i b o sp len cap j
    obtain ⟨h1, h2⟩ := bif_get h
    rw [forceN_eq] at h2
    exact ⟨b, o, sp, len, cap, j, rfl, rfl, h1, h2⟩
  · cases h
theorem idxP_some {len n : Nat} {v : Value} {i : Int} {K : Value → Ans} (h : idxP len n v i K = some r) :
    ∃ b o j, v = .pointer (some ⟨b, o, none⟩) ∧ i = .ofNat j ∧ Nat.blt j len = true ∧ K (.pointer (some ⟨b, o + j * n, none⟩)) = some r := by
  unfold idxP at h
  split at h
  · rename_i b o j
    obtain ⟨h1, h2⟩ := bif_get h
    rw [forceN_eq] at h2
    exact ⟨b, o, j, rfl, rfl, h1, h2⟩
  · cases h
theorem nchk_some {v : Value} {K : Value → Ans} (h : nchk v K = some r) : nilCheckA v = some v ∧ isAgg v = false ∧ K v = some r := by
  unfold nchk at h
  split at h
  · exact ⟨rfl, rfl, h⟩
  · exact ⟨rfl, rfl, h⟩
  · exact ⟨rfl, rfl, h⟩
  · cases h
theorem nthI_some {l : List Value} {off : Nat} {k : IntKind} {K : Int → Ans} (h : nthI l off k K = some r) : ∃ n, nthL l off = some (.int k n) ∧ K n = some r := by
  unfold nthI at h
  split at h
  · rename_i k' n hn
    obtain ⟨h1, h2⟩ := bif_get h
    rw [kbeq_eq h1] at hn
    exact ⟨n, hn, h2⟩
  · cases h
theorem nthB_some {l : List Value} {off : Nat} {K : Bool → Ans} (h : nthB l off K = some r) : ∃ c, nthL l off = some (.bool c) ∧ K c = some r := by
  unfold nthB at h
  split at h
  · rename_i c hc; exact ⟨c, hc, h⟩
  · cases h
theorem nthV_some {l : List Value} {off : Nat} {K : Value → Ans} (h : nthV l off K = some r) : ∃ w, nthL l off = some w ∧ isAgg w = false ∧ K w = some r := by
  unfold nthV at h
  split at h
  · rename_i w hw
    cases ha : isAgg w with
    | true => rw [ha] at h; cases h
    | false => rw [ha] at h; exact ⟨w, hw, ha, h⟩
  · cases h
theorem aggT_of {P : Program} {t : TypeId} {n : Nat} (h : repOf P t = some (.a n)) : aggT P t = some true ∧ tsz P t = some n := by
  unfold repOf at h
  unfold aggT
  split at h <;> try (cases h; done)
  all_goals
    rename_i hu
    split at h
    · rename_i m hm
      cases h
      rw [hu]; exact ⟨rfl, hm⟩
    · cases h
theorem aggT_not {P : Program} {t : TypeId} {q : Rep} (h : repOf P t = some q) (hq : ∀ n, q ≠ .a n) : aggT P t = some false := by
  unfold repOf at h
  unfold aggT
  cases hu : P.underlying t with
  | none => rw [hu] at h; cases h
  | some d =>
    rw [hu] at h
    cases d <;> simp_all
    all_goals
      split at h
      · rename_i n _; simp at h; exact absurd h.symm (hq n)
      · cases h
theorem nthR_some {P : Program} {t : TypeId} {cs : Array Value} {off : Nat} {q : Rep} {K : TV → Ans} (hq : repOf P t = some q) (h : nthR cs.toList off q K = some r) :
    ∃ v x, partA P t cs off = some v ∧ x.OK v ∧ K x = some r := by
  unfold partA
  cases q with
  | i k =>
    rw [aggT_not hq (by simp)]
    obtain ⟨n, h1, h2⟩ := nthI_some h
    exact ⟨_, .i k n, h1, rfl, h2⟩
  | b =>
    rw [aggT_not hq (by simp)]
    obtain ⟨n, h1, h2⟩ := nthB_some h
    exact ⟨_, .b n, h1, rfl, h2⟩
  | v =>
    rw [aggT_not hq (by simp)]
    obtain ⟨n, h1, h3, h2⟩ := nthV_some h
    exact ⟨_, _, h1, okv h3, h2⟩
  | a n =>
    obtain ⟨g1, g2⟩ := aggT_of hq
    simp only [g1, g2]
    have h' : nthG cs.toList off n (fun m => K (.a m)) = some r := h
    unfold nthG at h'
    obtain ⟨h1, h2⟩ := bif_get h'
    refine ⟨_, _, rfl, ?_, h2⟩
    show Value.agg _ = Value.agg _
    congr 1
    apply Array.toList_inj.1
    simp [List.extract_eq_take_drop]
theorem gndO_int (k : IntKind) (n : Int) : gndO (some (.int k n)) = some (.int k n) := rfl
theorem gndO_bool (c : Bool) : gndO (some (.bool c)) = some (.bool c) := rfl
theorem cmp_ok {P : Program} {op : BinOp} {t : TypeId} {k : IntKind} {a b : Int} (h : isCmp op = true) : gndO (prun P (binOp op t (.int k a) (.int k b))) = some (.bool (cmpI op a b)) := by
  cases op <;> first
    | (cases h; done)
    | (simp only [binOp, ne_eq, not_true_eq_false, if_false, Op.intCmp]
       refine (gndO_pure rfl).trans ?_
       simp only [cmpI, eqI_eq, ltI_eq, Option.some.injEq, Value.bool.injEq] <;>
         (rw [Bool.eq_iff_iff]; first | (simp; done) | (simp; omega)))
theorem bitI_ok {P : Program} {op : BinOp} {t : TypeId} {k : IntKind} {a b : Int} (h : op = .and ∨ op = .or ∨ op = .xor ∨ op = .andNot) : gndO (prun P (binOp op t (.int k a) (.int k b))) = some (.int k (bitI op k a b)) := by
  unfold bitI
  split
  · rename_i n hn
    unfold natQ' at hn
    split at hn <;> try (cases hn; done)
    rename_i m m'
    cases hc : (Nat.ble m (topQ k) && Nat.ble m' (topQ k)) with
    | false => rw [hc] at hn; cases hn
    | true =>
      rw [hc] at hn
      simp only [Bool.and_eq_true] at hc
      simp only [cond_true] at hn
      rcases h with rfl | rfl | rfl | rfl
      · cases hn; exact natQ_eq (by simp [natQ, hc.1, hc.2])
      · cases hn; exact natQ_eq (by simp [natQ, hc.1, hc.2])
      · cases hn; exact natQ_eq (by simp [natQ, hc.1, hc.2])
      · cases hn
  · rcases h with rfl | rfl | rfl | rfl <;> simp only [binOp, ne_eq, not_true_eq_false, if_false, Op.intBits] <;> exact gndO_pure rfl
theorem quoI_eq (a b : Int) : quoI a b = a.tdiv b := by
  unfold quoI; split <;> rfl
theorem remI_eq (a b : Int) : remI a b = a.tmod b := by
  unfold remI; split <;> rfl
theorem shlI_eq (a : Int) (n : Nat) : shlI a n = a * 2 ^ n := by
  cases a with
  | ofNat m => show Int.ofNat (m <<< n) = _; rw [Nat.shiftLeft_eq]; simp
  | negSucc m => rfl
theorem shrI_eq (a : Int) (n : Nat) : shrI a n = a.fdiv (2 ^ n) := by
  cases a with
  | ofNat m =>
    show Int.ofNat (m >>> n) = _
    rw [Nat.shiftRight_eq_div_pow]
    rw [Int.fdiv_eq_ediv_of_nonneg _ (by exact Int.le_of_lt (Int.pow_pos (by decide)))]
    simp
  | negSucc m => rfl
theorem arI_some {P : Program} {op : BinOp} {t : TypeId} {k k' : IntKind} {a b : Int} {K : Int → Ans} (hk : isShift op = true ∨ k = k') (h : arI op k a b K = some r) :
    ∃ n, gndO (prun P (binOp op t (.int k a) (.int k' b))) = some (.int k n) ∧ K n = some r := by
  unfold arI at h
  split at h
  · obtain rfl := hk.resolve_left (by decide)
    rw [bdI_eq] at h
    exact ⟨_, by simp only [binOp, ne_eq, not_true_eq_false, if_false, Op.intArith, wr_eq]; exact gndO_pure rfl, h⟩
  · obtain rfl := hk.resolve_left (by decide)
    rw [bdI_eq] at h
    exact ⟨_, by simp only [binOp, ne_eq, not_true_eq_false, if_false, Op.intArith, wr_eq]; exact gndO_pure rfl, h⟩
  · obtain rfl := hk.resolve_left (by decide)
    rw [bdI_eq] at h
    exact ⟨_, by simp only [binOp, ne_eq, not_true_eq_false, if_false, Op.intArith, wr_eq]; exact gndO_pure rfl, h⟩
  · obtain rfl := hk.resolve_left (by decide)
    cases hz : isZ b with
    | true => rw [hz] at h; cases h
    | false =>
      rw [hz] at h
      simp only [cond_false, bdI_eq] at h
      rw [isZ_eq] at hz
      have hz' : ¬ b = 0 := by simpa using hz
      exact ⟨_, by simp only [binOp, ne_eq, not_true_eq_false, if_false, Op.intDiv, if_neg hz', wr_eq, quoI_eq]; exact gndO_pure rfl, h⟩
  · obtain rfl := hk.resolve_left (by decide)
    cases hz : isZ b with
    | true => rw [hz] at h; cases h
    | false =>
      rw [hz] at h
      simp only [cond_false, bdI_eq] at h
      rw [isZ_eq] at hz
      have hz' : ¬ b = 0 := by simpa using hz
      exact ⟨_, by simp only [binOp, ne_eq, not_true_eq_false, if_false, Op.intDiv, if_neg hz', remI_eq]; exact gndO_pure rfl, h⟩
  · obtain rfl := hk.resolve_left (by decide)
    rw [bdI_eq] at h
    exact ⟨_, bitI_ok (by simp), h⟩
  · obtain rfl := hk.resolve_left (by decide)
    rw [bdI_eq] at h
    exact ⟨_, bitI_ok (by simp), h⟩
  · obtain rfl := hk.resolve_left (by decide)
    rw [bdI_eq] at h
    exact ⟨_, bitI_ok (by simp), h⟩
  · obtain rfl := hk.resolve_left (by decide)
    rw [bdI_eq] at h
    exact ⟨_, bitI_ok (by simp), h⟩
  · cases hz : isNeg b with
    | true => rw [hz] at h; cases h
    | false =>
      rw [hz] at h
      simp only [cond_false, bdI_eq] at h
      rw [isNeg_eq] at hz
      have hz' : ¬ b < 0 := by simpa using hz
      exact ⟨_, by simp only [binOp, Op.shift, if_neg hz', wr_eq, shlI_eq]; exact gndO_pure rfl, h⟩
  · cases hz : isNeg b with
    | true => rw [hz] at h; cases h
    | false =>
      rw [hz] at h
      simp only [cond_false, bdI_eq] at h
      rw [isNeg_eq] at hz
      have hz' : ¬ b < 0 := by simpa using hz
      exact ⟨_, by simp only [binOp, Op.shift, if_neg hz', shrI_eq]; exact gndO_pure rfl, h⟩
  · cases h

/-! ### operations that only compute -/
theorem nilT_some {d : TypeDesc} {q : NK} {v u : Value} {K : Bool → Ans} (hq : nkOf d = some q) (h : nilT q v u K = some r) : ∃ c, K c = some r ∧ nilEq d v u = some c := by
  unfold nilT at h
  split at h <;> (try (cases h; done)) <;> (cases d <;> (try (cases hq; done)) <;> exact ⟨_, h, rfl⟩)
theorem eqlB_some {op : BinOp} {e : Bool} (h : eqlB op = some e) : (op = .eql ∧ e = true) ∨ (op = .neq ∧ e = false) := by
  cases op <;> simp [eqlB] at h <;> simp [h]
theorem prun_pure {P : Program} {α : Type} (a : α) : prun P (pure a : Sem α) = some a := rfl
theorem equal_some {P : Program} {t : TypeId} {d : TypeDesc} (hd : P.underlying t = some d) {v u : Value} {c : Bool}
    (h : (d = .bool ∧ ∃ a b, v = .bool a ∧ u = .bool b ∧ c = (a == b)) ∨ nilEq d v u = some c) : prun P (Op.equal t v u) = some c := by
  have hm : Op.maxDepth = 9999 + 1 := rfl
  unfold Op.equal
  rw [hm]
  unfold Op.equalIn
  refine prun_bind P _ _ (a := d) ?_ ?_
  · show prun P (underlying t) = some d
    unfold underlying
    exact (prun_bind P _ _ (a := P) rfl (by rw [hd]; rfl))
  · rcases h with ⟨rfl, a, b, rfl, rfl, rfl⟩ | h
    · rfl
    · unfold nilEq at h
      split at h <;> (try (cases h; done)) <;> (cases h) <;> rfl
theorem eqGuard_prun {P : Program} {op : BinOp} {t : TypeId} {x y : Operand} {v u : Value} {e : Bool} (he : eqlB op = some e) (h1 : isAgg v = false) (h2 : v ≠ .nilIface) : prun P (eqGuard op t x y v u) = some () := by
  rcases eqlB_some he with ⟨rfl, _⟩ | ⟨rfl, _⟩ <;> (unfold eqGuard; cases v <;> cases u <;> first | rfl | (simp [isAgg] at h1; done) | (simp at h2; done))
theorem bin_eql {P : Program} {op : BinOp} {t : TypeId} {x y : Operand} {v u : Value} {e c : Bool} (he : eqlB op = some e) (hv : isAgg v = false) (hn : v ≠ .nilIface)
    (hs : (∀ k n, v ≠ .int k n) ∧ (∀ s, v ≠ .string s) ∧ (∀ k n, v ≠ .float k n) ∧ ∀ k a b, v ≠ .complex k a b) (h : prun P (Op.equal t v u) = some c) :
    gndO (prun P (do eqGuard op t x y v u; binOp op t v u)) = some (.bool (flipB e c)) := by
  have hb : prun P (binOp op t v u) = some (.bool (flipB e c)) := by
    rcases eqlB_some he with ⟨rfl, rfl⟩ | ⟨rfl, rfl⟩
    · unfold binOp
      split <;> (try (simp_all; done))
      all_goals (rename_i heq; first | (cases heq; done) | skip)
      all_goals exact prun_bind P _ _ h rfl
    · unfold binOp
      split <;> (try (simp_all; done))
      all_goals (rename_i heq; first | (cases heq; done) | skip)
      all_goals exact prun_bind P _ _ h rfl
  rw [show prun P (do eqGuard op t x y v u; binOp op t v u) = some (.bool (flipB e c)) from prun_bind P _ _ (eqGuard_prun he hv hn) hb]
  rfl
end
end Go.Idl

/- The typed machine, part e: operations that only compute are right, all of them. -/
namespace Go.Idl
open Go
noncomputable section
variable {r : Value × Heap}
theorem gnd_eq {v : Value} : gnd v = true → isAgg v = false → gnd1 v = true ∨ ∃ l, v = .tuple l := by
  intro h ha
  cases v <;> first | (left; exact h) | (cases ha; done) | (right; exact ⟨_, rfl⟩)
theorem binT_ok {P : Program} {op : BinOp} {t : TypeId} {x y : Operand} {u v : TV} {a b : Value} {K : TV → Ans} (hu : u.OK a) (hv : v.OK b) (h : binT P op t x y u v K = some r) :
    ∃ w z, binA P op t x y a b = some w ∧ z.OK w ∧ K z = some r := by
  unfold binT at h
  rw [tl_eq] at h
  split at h
  · rename_i k m k' n
    cases hu; cases hv
    simp only [binA]
    split at h
    · rename_i hc
      split at h
      · rename_i hk
        obtain rfl := kbeq_eq hk
        exact ⟨_, .b (cmpI op m n), cmp_ok hc, rfl, h⟩
      · cases h
    · split at h
      · rename_i hk
        obtain ⟨q, h1, h2⟩ := arI_some (P := P) (t := t) (k' := k') (by
          rw [Bool.or_eq_true] at hk
          exact hk.imp id kbeq_eq) h
        exact ⟨_, .i k q, h1, rfl, h2⟩
      · cases h
  · rename_i m n
    cases hu; cases hv
    split at h
    · rename_i e hd he
      have hq := equal_some (P := P) (t := t) hd (v := .bool m) (u := .bool n) (c := (m == n)) (.inl ⟨rfl, m, n, rfl, rfl, rfl⟩)
      have := bin_eql (P := P) (x := x) (y := y) he (v := .bool m) (u := .bool n) rfl (by simp) (by simp) hq
      refine ⟨_, .b (flipB e (eqB m n)), ?_, rfl, h⟩
      unfold binA
      simp only [gnd, gnd1, Bool.and_self, cond_true]
      rw [this]
      cases m <;> cases n <;> rfl
    · cases h
  · rename_i m n
    obtain ⟨rfl, ha⟩ := hu
    obtain ⟨rfl, hb⟩ := hv
    split at h <;> try (cases h; done)
    rename_i e d he hd
    split at h <;> try (cases h; done)
    rename_i q hq
    obtain ⟨c, h1, h2⟩ := nilT_some hq h
    refine ⟨_, .b (flipB e c), ?_, rfl, h1⟩
    have heq := equal_some hd (.inr h2)
    have hv' : a ≠ .nilIface ∧ (∀ k n, a ≠ .int k n) ∧ (∀ s, a ≠ .string s) ∧ (∀ k n, a ≠ .float k n) ∧ ∀ k p q, a ≠ .complex k p q := by
      unfold nilEq at h2
      split at h2 <;> first | (cases h2; done) | simp
    have hk := bin_eql (P := P) (x := x) (y := y) he ha hv'.1 ⟨hv'.2.1, hv'.2.2.1, hv'.2.2.2.1, hv'.2.2.2.2⟩ heq
    have hek : eqKind op = some e := by
      rcases eqlB_some he with ⟨rfl, rfl⟩ | ⟨rfl, rfl⟩ <;> rfl
    unfold binA
    split
    · exact absurd rfl (hv'.2.1 _ _)
    · cases hg : (gnd a && gnd b) with
      | true => rw [hk]; rfl
      | false =>
        simp only [hek, hd, h2, cond_false]
        rfl
  · rename_i l m
    have h1 := TV.ok_a hu; have h2 := TV.ok_a hv
    subst h1; subst h2
    unfold eqG at h
    split at h <;> try (cases h; done)
    rename_i c hc
    exact ⟨_, .b c, hc, rfl, h⟩
  · cases h
theorem ovw_len (off : Nat) (vs cells : List Value) (h : off + vs.length ≤ cells.length) : (ovw off vs cells).length = cells.length := by
  simp [ovw]; omega
theorem get_ovw {off : Nat} {vs cells : List Value} (h : off + vs.length ≤ cells.length) (i : Nat) : (ovw off vs cells)[i]? = if off ≤ i ∧ i < off + vs.length then vs[i - off]? else cells[i]? := by
  unfold ovw
  have hl : (cells.take off).length = off := by simp; omega
  rw [List.append_assoc]
  by_cases h1 : i < off
  · rw [List.getElem?_append_left (by omega), if_neg (by omega), List.getElem?_take, if_pos h1]
  · rw [List.getElem?_append_right (by omega), hl]
    by_cases h2 : i < off + vs.length
    · rw [List.getElem?_append_left (by omega), if_pos (by omega)]
    · rw [List.getElem?_append_right (by omega), if_neg (by omega), List.getElem?_drop]
      congr 1; omega
theorem fold_ovw : ∀ (vs : List Value) (off k : Nat) (cells : List Value), off + k + vs.length ≤ cells.length →
    (vs.zipIdx k).foldl (fun cs (x : Value × Nat) => cs.setIfInBounds (off + x.2) x.1) cells.toArray = (ovw (off + k) vs cells).toArray
  | [], off, k, cells, h => by simp [ovw]
  | v :: vs, off, k, cells, h => by
    simp only [List.length_cons] at h
    rw [List.zipIdx_cons, List.foldl_cons]
    have h1 : cells.toArray.setIfInBounds (off + k) v = (cells.set (off + k) v).toArray := by simp
    rw [h1, fold_ovw vs off (k + 1) _ (by simp; omega)]
    congr 1
    apply List.ext_getElem?
    intro i
    rw [get_ovw (by simp; omega), get_ovw (by simp; omega), List.getElem?_set]
    simp only [List.length_cons]
    by_cases g2 : i = off + k
    · subst g2
      rw [if_neg (by omega), if_pos rfl, if_pos (by omega), if_pos (by omega), Nat.sub_self]; rfl
    · by_cases g1 : off + k ≤ i ∧ i < off + k + (vs.length + 1)
      · rw [if_pos (by omega), if_pos g1, show i - (off + k) = (i - (off + (k + 1))) + 1 by omega, List.getElem?_cons_succ]
      · rw [if_neg (by omega), if_neg (Ne.symm g2), if_neg g1]
theorem fillT_ok {place place' : Nat → Option (Nat × Nat)} (hp : ∀ i, place i = place' i) : ∀ {ps : List (Nat × TV)} {qs : List (Nat × Value)} {cells l : List Value}, ps.length = qs.length →
    (∀ (i : Nat) (p : Nat × TV) (q : Nat × Value), ps[i]? = some p → qs[i]? = some q → p.1 = q.1 ∧ p.2.OK q.2) → fillT place cells ps = some l → Instr.fill place' cells.toArray qs = some l.toArray
  | [], qs, cells, l, hl, _, h => by
    have : qs = [] := List.eq_nil_of_length_eq_zero (by simpa using hl.symm)
    subst this; cases h; rfl
  | (i, x) :: ps, qs, cells, l, hl, ho, h => by
    cases qs with
    | nil => simp at hl
    | cons q qs =>
      obtain ⟨j, w⟩ := q
      obtain ⟨rfl, hx⟩ := ho 0 _ _ rfl rfl
      simp only at hx
      simp only [fillT] at h
      split at h <;> try (cases h; done)
      rename_i off size vs hpl hcs
      obtain ⟨h1, h2⟩ := bif_o h
      simp only [Bool.and_eq_true] at h1
      obtain ⟨h3, h4⟩ := h1
      have h3 : vs.length = size := by simpa using h3
      have h4 : off + vs.length ≤ cells.length := by simpa using h4
      have hc := cells_ok hx hcs
      simp only [Instr.fill, ← hp, hpl, hc, List.size_toArray]
      rw [if_neg (by simp; omega)]
      have hf : (vs.toArray.zipIdx.foldl (fun cs (x : Value × Nat) => cs.setIfInBounds (off + x.2) x.1) cells.toArray) = (ovw off vs cells).toArray := by
        have := fold_ovw vs off 0 cells (by omega)
        rw [Nat.add_zero] at this
        rw [← this, ← Array.foldl_toList, Array.toList_zipIdx]
      have hf' : (vs.toArray.zipIdx.foldl (fun cs x => match x with | (c, j) => cs.setIfInBounds (off + j) c) cells.toArray) = (ovw off vs cells).toArray := hf
      rw [hf']
      exact fillT_ok hp (by simpa using hl) (fun i p q g1 g2 => ho (i + 1) p q (by simpa using g1) (by simpa using g2)) h2

theorem optT_some {ρ : T TV} {e : Env} (hρ : OKE ρ e) {x : Option Operand} {K : Option Int → Ans} (h : optT ρ x K = some r) : ∃ n, K n = some r ∧ ((n = none ∧ x.map e = none) ∨ ∃ k m, n = some m ∧ x.map e = some (.int k m)) := by
  unfold optT at h
  rw [tl_eq] at h
  split at h
  · exact ⟨none, h, .inl ⟨rfl, rfl⟩⟩
  · rename_i y
    split at h
    · rename_i k n hn
      have := hρ y
      rw [hn] at this
      exact ⟨some n, h, .inr ⟨k, n, rfl, by simp [TV.ok_int this]⟩⟩
    · cases h
theorem nat?_of {n : Option Int} {l : Option Nat} {v : Option Value} (h : nat? n = some l) (hv : (n = none ∧ v = none) ∨ ∃ k m, n = some m ∧ v = some (.int k m)) : natOf? v = some l := by
  rcases hv with ⟨rfl, rfl⟩ | ⟨k, m, rfl, rfl⟩
  · cases h; rfl
  · cases m with
    | ofNat j => cases h; rfl
    | negSucc j => cases h
theorem slcV_some {P : Program} {t elem : TypeId} {sz : Nat} {v : Value} {lo hi mx : Option Int} {K : Value → Ans} (ht : P.underlying t = some (.slice elem)) (hz : tsz P elem = some sz) (h : slcV sz v lo hi mx K = some r) :
    ∃ l q m u, nat? lo = some l ∧ nat? hi = some q ∧ nat? mx = some m ∧ sliceA P t v l q m = some u ∧ isAgg u = false ∧ (∀ s, v ≠ .string s) ∧ K u = some r := by
  unfold slcV at h
  split at h <;> try (cases h; done)
  rename_i l q m hl hq hm
  refine ⟨l, q, m, ?_⟩
  unfold sliceA
  simp only [ht, hz]
  split at h <;> try (cases h; done)
  · rename_i len cap
    obtain ⟨h1, h2⟩ := bif_get h
    simp only [forceN_eq] at h2
    simp only
    rw [h1]
    exact ⟨_, hl, hq, hm, rfl, rfl, by simp, h2⟩
  · rename_i b o sp len cap
    obtain ⟨h1, h2⟩ := bif_get h
    simp only
    rw [h1]
    simp only [cond_true]
    split at h2
    · simp only [forceN_eq] at h2
      exact ⟨_, hl, hq, hm, rfl, rfl, by simp, h2⟩
    · rename_i es
      obtain ⟨h3, h4⟩ := bif_get h2
      simp only [h3, cond_true]
      split at h4
      · simp only [forceN_eq] at h4
        exact ⟨_, hl, hq, hm, rfl, rfl, by simp, h4⟩
      · rename_i m'
        cases hml : Nat.beq ((some m').getD cap) (l.getD 0) with
        | true =>
          rw [hml] at h4
          simp only [cond_true] at h4 ⊢
          cases hc : Nat.beq cap 0 with
          | true => rw [hc] at h4; exact ⟨_, hl, hq, hm, rfl, rfl, by simp, h4⟩
          | false => rw [hc] at h4; exact ⟨_, hl, hq, hm, rfl, rfl, by simp, h4⟩
        | false =>
          rw [hml] at h4
          simp only [cond_false, forceN_eq] at h4 ⊢
          exact ⟨_, hl, hq, hm, rfl, rfl, by simp, h4⟩
theorem parts_at {ρ : T TV} {e : Env} (h : OKE ρ e) (l : List (Nat × Operand)) : ∀ (i : Nat) (p : Nat × TV) (q : Nat × Value), (partsT ρ l)[i]? = some p → (l.map fun p => (p.1, e p.2))[i]? = some q → p.1 = q.1 ∧ p.2.OK q.2 := by
  intro i p q h1 h2
  simp only [partsT, List.getElem?_map] at h1 h2
  cases hl : l[i]? with
  | none => rw [hl] at h1; cases h1
  | some o => rw [hl] at h1 h2; cases h1; cases h2; exact ⟨rfl, h o.2⟩
theorem buildT_ok {P : Program} {ρ : T TV} {e : Env} (h : OKE ρ e) {t : TypeId} {ps : Array (Nat × Operand)} {l : List Value} (hb : buildT P t (partsT ρ ps.toList) = some l) :
    buildA P t (ps.toList.map fun p => (p.1, e p.2)) = some (.agg l.toArray) := by
  unfold buildT at hb
  unfold buildA
  split at hb <;> try (cases hb; done)
  rename_i z hz
  simp only [hz]
  have hlen : (partsT ρ ps.toList).length = (ps.toList.map fun p => (p.1, e p.2)).length := by simp [partsT]
  split at hb <;> try (cases hb; done)
  · rename_i fs hu
    split at hb <;> try (cases hb; done)
    rename_i pl hpl
    have := fillT_ok (place' := (pl.toArray[·]?)) (fun i => by rw [nthL_eq]; simp) hlen (parts_at h _) hb
    simp only [hu, hpl]
    rw [show z = z.toList.toArray by simp, this]
  · rename_i n elem hu
    split at hb <;> try (cases hb; done)
    rename_i sz hsz
    have := fillT_ok (place' := fun i => some (i * sz, sz)) (fun i => rfl) hlen (parts_at h _) hb
    simp only [hu, hsz]
    rw [show z = z.toList.toArray by simp, this]
theorem idxG_some {len n : Nat} {l : List Value} {i : Int} {q : Rep} {K : TV → Ans} (h : idxG len n l i q K = some r) : ∃ j, i = .ofNat j ∧ Nat.blt j len = true ∧ nthR l (j * n) q K = some r := by
  unfold idxG at h
  rw [tl_eq] at h
  cases q with
  | i k =>
    simp only [idxI] at h
    split at h
    · rename_i j; obtain ⟨h1, h2⟩ := bif_get h; exact ⟨j, rfl, h1, h2⟩
    · cases h
  | b =>
    simp only [idxB] at h
    split at h
    · rename_i j; obtain ⟨h1, h2⟩ := bif_get h; exact ⟨j, rfl, h1, h2⟩
    · cases h
  | v =>
    simp only [idxV] at h
    split at h
    · rename_i j; obtain ⟨h1, h2⟩ := bif_get h; exact ⟨j, rfl, h1, h2⟩
    · cases h
  | a m =>
    simp only [idxL] at h
    split at h
    · rename_i j; obtain ⟨h1, h2⟩ := bif_get h; exact ⟨j, rfl, h1, h2⟩
    · cases h
theorem lenV_some {v : Value} {K : Int → Ans} (h : lenV v K = some r) : ∃ a n c, v = .slice a n c ∧ K (.ofNat n) = some r := by
  unfold lenV at h
  split at h
  · exact ⟨_, _, _, rfl, h⟩
  · cases h
theorem lenS_some {v : Value} {K : Int → Ans} (h : lenS v K = some r) : ∃ s, v = .string s ∧ K (.ofNat s.size) = some r := by
  unfold lenS at h
  split at h
  · exact ⟨_, rfl, h⟩
  · cases h
theorem arr_get {α : Type} {a : Array α} {x : α} {l : List α} (h : a.toList = x :: l) : a[0]? = some x := by
  rw [← Array.getElem?_toList, h]; rfl
theorem arr_get1 {α : Type} {a : Array α} {x y : α} {l : List α} (h : a.toList = x :: y :: l) : a[1]? = some y := by
  rw [← Array.getElem?_toList, h]; rfl
/-- least and greatest of two -/
theorem minmax_map {ρ : T TV} {e : Env} (h : OKE ρ e) {xs : Array Operand} {k k' : IntKind} {a b : Int} (hm : xs.toList.map (evT ρ) = [.i k a, .i k' b]) : xs.map e = #[.int k a, .int k' b] := by
  have h1 := map_at h xs.toList 0
  have h2 := map_at h xs.toList 1
  rw [hm] at h1 h2
  have hl : xs.toList.length = 2 := by have := congrArg List.length hm; simpa using this
  obtain ⟨x, y, hxy⟩ : ∃ x y, xs.toList = [x, y] := by
    match hh : xs.toList with
    | [x, y] => exact ⟨x, y, rfl⟩
    | [] => rw [hh] at hl; cases hl
    | [_] => rw [hh] at hl; cases hl
    | _ :: _ :: _ :: _ => rw [hh] at hl; simp at hl
  rw [hxy] at h1 h2
  have g1 := TV.ok_int (h1 _ _ rfl rfl)
  have g2 := TV.ok_int (h2 _ _ rfl rfl)
  apply Array.toList_inj.1
  simp [hxy, g1, g2]
theorem minI_eq (a b : Int) : minI a b = if b < a then b else a := by
  unfold minI; rw [ltI_eq]; by_cases h : b < a <;> simp [h]
theorem maxI_eq (a b : Int) : maxI a b = if a < b then b else a := by
  unfold maxI; rw [ltI_eq]; by_cases h : a < b <;> simp [h]
theorem min_prun {P : Program} {k k' : IntKind} {a b : Int} : gndO (prun P (Builtin.min_ #[] 0 #[.int k a, .int k' b])) = some (.int k (minI a b)) := by
  rw [minI_eq]; rfl
theorem max_prun {P : Program} {k k' : IntKind} {a b : Int} : gndO (prun P (Builtin.max_ #[] 0 #[.int k a, .int k' b])) = some (.int k (maxI a b)) := by
  rw [maxI_eq]; rfl
theorem un_gnd {P : Program} {ρ : Env} {o : Op} {v : Value} (hp : plainOp o = true) (hg : o.operands.all (fun x => gnd (ρ x)) = true) (h : ∀ oo : Oper, oo.op = o → prun P (execOp ρ oo) = some (.value v)) (hv : gnd v = true) :
    ∀ oo : Oper, oo.op = o → (bif plainOp o && o.operands.all (fun x => gnd (ρ x)) then (match prun P (execOp ρ oo) with | some (.value v) => bif gnd v then some v else none | _ => none) else none) = some v := by
  intro oo ho
  rw [hp, hg]
  simp only [Bool.and_self, cond_true, h oo ho, hv]
theorem underlying_prun {P : Program} {t : TypeId} {d : TypeDesc} (h : P.underlying t = some d) : prun P (underlying t) = some d := by
  unfold underlying
  exact (prun_bind P _ _ (a := P) rfl (by rw [h]; rfl))
theorem conv_ok {P : Program} {src dst : TypeId} {k q : IntKind} {n : Int} {d : TypeDesc} (hs : P.underlying src = some d) (h : P.underlying dst = some (.int k)) : prun P (convert src dst (.int q n)) = some (.int k (k.wrap n)) := by
  unfold convert
  refine prun_bind P _ _ (underlying_prun hs) ?_
  refine prun_bind P _ _ (underlying_prun h) ?_
  cases d <;> rfl
theorem pT_ok {P : Program} {ρ : T TV} {e : Env} {o : Oper} {K : TV → Ans} (hρ : OKE ρ e) (h : pT P ρ o K = some r) : ∃ v x, pA P e o = some v ∧ x.OK v ∧ K x = some r := by
  unfold pT at h
  rw [tl_eq] at h
  unfold pA
  split at h
  · rename_i x ho; rw [ho]; exact ⟨_, _, rfl, hρ x, h⟩
  · rename_i x ho; rw [ho]; exact ⟨_, _, rfl, hρ x, h⟩
  · rename_i op t x y yt ho
    rw [ho]
    exact binT_ok (hρ x) (hρ y) h
  · rename_i op t x ho
    rw [ho]
    split at h <;> try (cases h; done)
    · rename_i c hc
      have hx := hρ x
      rw [hc] at hx
      have hx := TV.ok_b hx
      refine ⟨_, .b (!c), ?_, rfl, h⟩
      exact un_gnd rfl (by simp [Op.operands, hx, gnd, gnd1]) (fun oo hoo => by unfold execOp; rw [hoo]; simp only [hx]; rfl) rfl o ho
    · rename_i k n hc
      rw [bdI_eq] at h
      have hx := hρ x
      rw [hc] at hx
      have hx := TV.ok_int hx
      refine ⟨_, .i k (wr k (Int.sub 0 n)), ?_, rfl, h⟩
      exact un_gnd rfl (by simp [Op.operands, hx, gnd, gnd1]) (fun oo hoo => by unfold execOp; rw [hoo]; simp only [hx, wr_eq]; rfl) rfl o ho
    · rename_i k n hc
      rw [bdI_eq] at h
      have hx := hρ x
      rw [hc] at hx
      have hx := TV.ok_int hx
      have hb := bitI_ok (P := P) (op := .xor) (t := 0) (k := k) (a := if k.signed then -1 else k.max) (b := n) (by simp)
      obtain ⟨hb, _⟩ := gndO_some hb
      simp only [binOp, ne_eq, not_true_eq_false, if_false] at hb
      refine ⟨_, .i k (bitI .xor k (if k.signed then -1 else k.max) n), ?_, rfl, h⟩
      exact un_gnd rfl (by simp [Op.operands, hx, gnd, gnd1]) (fun oo hoo => by
        unfold execOp; rw [hoo]; simp only [hx]
        exact prun_bind P _ _ (by exact hb) rfl) rfl o ho
  · rename_i src dst x ho
    rw [ho]
    split at h <;> try (cases h; done)
    rename_i k q n hd hc
    rw [bdI_eq] at h
    have hx := hρ x
    rw [hc] at hx
    have hx := TV.ok_int hx
    split at h <;> try (cases h; done)
    rename_i d hs
    refine ⟨_, .i k (wr k n), ?_, rfl, h⟩
    exact un_gnd rfl (by simp [Op.operands, hx, gnd, gnd1]) (fun oo hoo => by
      unfold execOp; rw [hoo]; simp only [hx, wr_eq]
      exact prun_bind P _ _ (conv_ok hs hd) rfl) rfl o ho
  · rename_i t i ho
    rw [ho]
    split at h <;> try (cases h; done)
    rename_i l hl
    split at h <;> try (cases h; done)
    rename_i x hx
    have ht := hρ t
    rw [hl] at ht
    obtain ⟨us, hu, hz, hat⟩ := ht
    rw [nthL_eq] at hx
    have hlt : i < us.size := by have := (List.getElem?_eq_some_iff.1 hx).1; omega
    have hg : us[i]? = some us[i] := by simp [hlt]
    have := hat i x us[i] hx hg
    refine ⟨us[i], x, by simp only [hu, extractA, hg], ?_, h⟩
    cases x <;> first | exact this | exact this.elim
  · rename_i s x f ho
    rw [ho]
    split at h <;> try (cases h; done)
    rename_i fs hu
    split at h <;> try (cases h; done)
    rename_i fl hf
    rw [nthL_eq, Array.getElem?_toList] at hf
    split at h <;> try (cases h; done)
    rename_i n p hn hp
    have hx := hρ x
    rw [hp] at hx
    obtain ⟨hx, _⟩ := TV.ok_v hx
    obtain ⟨b, o', rfl, hK⟩ := fldP_some h
    exact ⟨_, .v (.pointer (some ⟨b, o' + fl.offset, none⟩)), by simp only [fieldAddrA, hu, hf, hn, hx], ⟨rfl, rfl⟩, hK⟩
  · rename_i t x f ho
    rw [ho]
    split at h <;> try (cases h; done)
    rename_i fs hu
    split at h <;> try (cases h; done)
    rename_i fl hf
    rw [nthL_eq, Array.getElem?_toList] at hf
    split at h <;> try (cases h; done)
    rename_i q l hq hl
    have hx := hρ x
    rw [hl] at hx
    have hx := TV.ok_a hx
    have h' : nthR l.toArray.toList fl.offset q K = some r := by simpa using h
    obtain ⟨v, y, h1, h2, h3⟩ := nthR_some hq h'
    exact ⟨v, y, by simp only [fieldA, hu, hf, hx]; exact h1, h2, h3⟩
  · rename_i t x i ho
    rw [ho]
    split at h <;> try (cases h; done)
    · rename_i elem hu
      split at h <;> try (cases h; done)
      rename_i n v k j hn hv hj
      have hx := hρ x; have hi := hρ i
      rw [hv] at hx; rw [hj] at hi
      obtain ⟨hx, _⟩ := TV.ok_v hx
      have hi := TV.ok_int hi
      obtain ⟨b, o', sp, len, cap, m, rfl, rfl, hlt, hK⟩ := idxS_some h
      exact ⟨_, .v (.pointer (some ⟨b, o' + m * n, none⟩)), by simp only [indexAddrA, hi, hu, hx, hlt, hn, cond_true], ⟨rfl, rfl⟩, hK⟩
    · rename_i len elem hu
      split at h <;> try (cases h; done)
      rename_i n v k j hn hv hj
      have hx := hρ x; have hi := hρ i
      rw [hv] at hx; rw [hj] at hi
      obtain ⟨hx, _⟩ := TV.ok_v hx
      have hi := TV.ok_int hi
      obtain ⟨b, o', m, rfl, rfl, hlt, hK⟩ := idxP_some h
      exact ⟨_, .v (.pointer (some ⟨b, o' + m * n, none⟩)), by simp only [indexAddrA, hi, hu, hx, hlt, hn, cond_true], ⟨rfl, rfl⟩, hK⟩
  · rename_i t x i ho
    rw [ho]
    split at h <;> try (cases h; done)
    · rename_i len elem hu
      split at h <;> try (cases h; done)
      rename_i n q l k j hn hq hl hj
      have hx := hρ x; have hi := hρ i
      rw [hl] at hx; rw [hj] at hi
      have hx := TV.ok_a hx
      have hi := TV.ok_int hi
      obtain ⟨m, rfl, hlt, hK⟩ := idxG_some h
      have h' : nthR l.toArray.toList (m * n) q K = some r := by simpa using hK
      obtain ⟨v, y, h1, h2, h3⟩ := nthR_some hq h'
      exact ⟨v, y, by simp only [ixA, hi, hu, hx, hlt, hn, cond_true]; exact h1, h2, h3⟩
    · rename_i hu
      split at h <;> try (cases h; done)
      rename_i v k j hv hj
      have hx := hρ x; have hi := hρ i
      rw [hv] at hx; rw [hj] at hi
      obtain ⟨hx, _⟩ := TV.ok_v hx
      have hi := TV.ok_int hi
      unfold idxT at h
      split at h <;> try (cases h; done)
      rename_i s m _ _ _
      split at h <;> try (cases h; done)
      rename_i b hb
      rw [bdI_eq] at h
      rw [nthL_eq, Array.getElem?_toList] at hb
      have hb' : s[m]? = some b := hb
      exact ⟨_, .i .u8 (.ofNat b.toNat), by simp only [ixA, hi, hu, hx, hb']; rfl, rfl, h⟩
  · rename_i x ho
    rw [ho]
    split at h <;> try (cases h; done)
    rename_i v hv
    have hx := hρ x
    rw [hv] at hx
    obtain ⟨hx, _⟩ := TV.ok_v hx
    obtain ⟨h1, h2, h3⟩ := nchk_some h
    exact ⟨v, .v v, by simp only [hx]; exact h1, ⟨rfl, h2⟩, h3⟩
  · rename_i c a b ho
    rw [ho]
    split at h <;> try (cases h; done)
    rename_i t ht
    have hx := hρ c
    rw [ht] at hx
    have hx := TV.ok_b hx
    rw [cndT_eq] at h
    cases t with
    | true => exact ⟨e a, evT ρ a, by simp only [hx, cond_true], hρ a, h⟩
    | false => exact ⟨e b, evT ρ b, by simp only [hx, cond_false], hρ b, h⟩
  · rename_i t x l q m ho
    rw [ho]
    split at h <;> try (cases h; done)
    rename_i elem hu
    split at h <;> try (cases h; done)
    rename_i n v hn hv
    have hx := hρ x
    rw [hv] at hx
    obtain ⟨hx, _⟩ := TV.ok_v hx
    obtain ⟨l', h1, hl⟩ := optT_some hρ h
    obtain ⟨q', h2, hq⟩ := optT_some hρ h1
    obtain ⟨m', h3, hm⟩ := optT_some hρ h2
    obtain ⟨l2, q2, m2, u, g1, g2, g3, g4, g5, g6, g7⟩ := slcV_some hu hn h3
    refine ⟨u, .v u, ?_, ⟨rfl, g5⟩, g7⟩
    simp only [nat?_of g1 hl, nat?_of g2 hq, nat?_of g3 hm, hx]
    try (split; exact absurd rfl (g6 _))
    exact g4
  · rename_i t ps ho
    rw [ho]
    split at h <;> try (cases h; done)
    rename_i l hl
    exact ⟨_, .a l, buildT_ok hρ hl, rfl, h⟩
  · rename_i fn first cap ho
    rw [ho]
    split at h <;> try (cases h; done)
    rename_i f
    split at h <;> try (cases h; done)
    rename_i a b ha hb
    have h1 := map_ok hρ ha
    have h2 := map_ok hρ hb
    refine ⟨_, .v (.func (.func f) a.toArray b.toArray), rfl, ⟨?_, rfl⟩, h⟩
    rw [h1, h2]
    congr 1 <;> (apply Array.toList_inj.1; simp)
  · rename_i c ho
    rw [ho]
    split at h
    · rename_i hc
      simp only [hc, builtinA]
      split at h <;> try (cases h; done)
      rename_i t ts x xs hts hxs
      rw [arr_get hts]
      have hx0 : (c.args.map e)[0]? = some (e x) := by rw [Array.getElem?_map, arr_get hxs]; rfl
      rw [hx0]
      simp only
      have hx := hρ x
      unfold lenA
      split at h <;> try (cases h; done)
      · rename_i el v hu hv
        rw [hv] at hx
        obtain ⟨hx, _⟩ := TV.ok_v hx
        obtain ⟨a, n, q, rfl, hK⟩ := lenV_some h
        exact ⟨_, .i .i64 (.ofNat n), by rw [hu, hx]; rfl, rfl, hK⟩
      · rename_i v hu hv
        rw [hv] at hx
        obtain ⟨hx, _⟩ := TV.ok_v hx
        obtain ⟨s, rfl, hK⟩ := lenS_some h
        exact ⟨_, .i .i64 (.ofNat s.size), by rw [hu, hx]; rfl, rfl, hK⟩
      · rename_i n el hu
        exact ⟨_, .i .i64 (.ofNat n), by rw [hu]; rfl, rfl, h⟩
      · rename_i arr hu
        split at h <;> try (cases h; done)
        rename_i n el hu2
        exact ⟨_, .i .i64 (.ofNat n), by rw [hu]; simp only [hu2]; rfl, rfl, h⟩
    · rename_i hc
      simp only [hc, builtinA]
      split at h <;> try (cases h; done)
      rename_i t ts x xs hts hxs
      rw [arr_get hts]
      have hx0 : (c.args.map e)[0]? = some (e x) := by rw [Array.getElem?_map, arr_get hxs]; rfl
      rw [hx0]
      simp only
      have hx := hρ x
      unfold capA
      split at h <;> try (cases h; done)
      rename_i el v hu hv
      rw [hv] at hx
      obtain ⟨hx, _⟩ := TV.ok_v hx
      unfold capV at h
      split at h <;> try (cases h; done)
      · exact ⟨_, .i .i64 (.ofNat _), by rw [hu, hx]; rfl, rfl, h⟩
      · exact ⟨_, .i .i64 (.ofNat _), by rw [hu, hx]; rfl, rfl, h⟩
    · rename_i hc
      simp only [hc, builtinA]
      split at h <;> try (cases h; done)
      rename_i k a k' b hm
      rw [bdI_eq] at h
      rw [minmax_map hρ hm]
      exact ⟨_, .i k (minI a b), by simpa [gnd1] using min_prun (P := P), rfl, h⟩
    · rename_i hc
      simp only [hc, builtinA]
      split at h <;> try (cases h; done)
      rename_i k a k' b hm
      rw [bdI_eq] at h
      rw [minmax_map hρ hm]
      exact ⟨_, .i k (maxI a b), by simpa [gnd1] using max_prun (P := P), rfl, h⟩
    · cases h
  · cases h
end
end Go.Idl

/- The typed machine, part f: reads, what makes memory, writes, calls. -/
namespace Go.Idl
open Go
noncomputable section
variable {r : Value × Heap}

/-! ### results of calls -/
theorem appV_lamJ : ∀ {rs : List Rep} {G : List TV → Heap → Ans} {vs : List Value} {σ : Heap}, appV rs (lamJ rs G) vs σ = some r →
    ∃ l, G l σ = some r ∧ l.length = vs.length ∧ ∀ (i : Nat) (x : TV) (u : Value), l[i]? = some x → vs[i]? = some u → (match x with | .i k n => u = .int k n | .b c => u = .bool c | .v w => u = w ∧ isAgg w = false | .a m => u = .agg m.toArray | _ => False)
  | [], G, vs, σ, h => by
    cases vs with
    | nil => exact ⟨[], h, rfl, fun i x u h1 => by simp at h1⟩
    | cons v vs => cases h
  | .i k :: rs, G, vs, σ, h => by
    cases vs with
    | nil => cases h
    | cons v vs =>
      cases v <;> try (cases h; done)
      rename_i k' n
      obtain ⟨h1, h2⟩ := bif_get h
      obtain rfl := kbeq_eq h1
      obtain ⟨l, g1, g2, g3⟩ := appV_lamJ (rs := rs) (G := fun vs => G (.i k' n :: vs)) h2
      refine ⟨_, g1, by simp [g2], fun i x u e1 e2 => ?_⟩
      cases i with
      | zero => cases e1; cases e2; rfl
      | succ i => exact g3 i x u (by simpa using e1) (by simpa using e2)
  | .b :: rs, G, vs, σ, h => by
    cases vs with
    | nil => cases h
    | cons v vs =>
      cases v <;> try (cases h; done)
      rename_i n
      obtain ⟨l, g1, g2, g3⟩ := appV_lamJ (rs := rs) (G := fun vs => G (.b n :: vs)) h
      refine ⟨_, g1, by simp [g2], fun i x u e1 e2 => ?_⟩
      cases i with
      | zero => cases e1; cases e2; rfl
      | succ i => exact g3 i x u (by simpa using e1) (by simpa using e2)
  | .v :: rs, G, vs, σ, h => by
    cases vs with
    | nil => cases h
    | cons v vs =>
      have h' : (bif isAgg v then none else appV rs (lamJ rs fun vs => G (.v v :: vs)) vs σ) = some r := h
      cases ha : isAgg v with
      | true => rw [ha] at h'; cases h'
      | false =>
        rw [ha] at h'
        obtain ⟨l, g1, g2, g3⟩ := appV_lamJ (rs := rs) (G := fun vs => G (.v v :: vs)) h'
        refine ⟨_, g1, by simp [g2], fun i x u e1 e2 => ?_⟩
        cases i with
        | zero => cases e1; cases e2; exact ⟨rfl, ha⟩
        | succ i => exact g3 i x u (by simpa using e1) (by simpa using e2)
  | .a n :: rs, G, vs, σ, h => by
    cases vs with
    | nil => cases h
    | cons v vs =>
      cases v <;> try (cases h; done)
      rename_i m
      obtain ⟨h1, h2⟩ := bif_get h
      obtain ⟨l, g1, g2, g3⟩ := appV_lamJ (rs := rs) (G := fun vs => G (.a m.toList :: vs)) h2
      refine ⟨_, g1, by simp [g2], fun i x u e1 e2 => ?_⟩
      cases i with
      | zero => cases e1; cases e2; simp
      | succ i => exact g3 i x u (by simpa using e1) (by simpa using e2)
theorem appV_len : ∀ {rs : List Rep} {F : JT rs} {vs : List Value} {σ : Heap}, appV rs F vs σ = some r → vs.length = rs.length
  | [], F, vs, σ, h => by cases vs with | nil => rfl | cons v vs => cases h
  | .i k :: rs, F, vs, σ, h => by
    cases vs with
    | nil => cases h
    | cons v vs =>
      cases v <;> try (cases h; done)
      exact congrArg (· + 1) (appV_len (rs := rs) (bif_get h).2)
  | .b :: rs, F, vs, σ, h => by
    cases vs with
    | nil => cases h
    | cons v vs =>
      cases v <;> try (cases h; done)
      exact congrArg (· + 1) (appV_len (rs := rs) h)
  | .v :: rs, F, vs, σ, h => by
    cases vs with
    | nil => cases h
    | cons v vs =>
      have h' : (bif isAgg v then none else appV rs (F v) vs σ) = some r := h
      cases ha : isAgg v with
      | true => rw [ha] at h'; cases h'
      | false => rw [ha] at h'; exact congrArg (· + 1) (appV_len (rs := rs) h')
  | .a n :: rs, F, vs, σ, h => by
    cases vs with
    | nil => cases h
    | cons v vs =>
      cases v <;> try (cases h; done)
      exact congrArg (· + 1) (appV_len (rs := rs) (bif_get h).2)
/-- one value -/
theorem ok_one {x : TV} {u : Value} (h : match x with | .i k n => u = .int k n | .b c => u = .bool c | .v w => u = w ∧ isAgg w = false | .a m => u = .agg m.toArray | _ => False) : x.OK u := by
  cases x <;> first | exact h | exact h.elim
theorem tup_ok {l : List TV} {us : Array Value} (hz : us.size = l.length) (h : ∀ (i : Nat) (x : TV) (u : Value), l[i]? = some x → us.toList[i]? = some u → (match x with | .i k n => u = .int k n | .b c => u = .bool c | .v w => u = w ∧ isAgg w = false | .a m => u = .agg m.toArray | _ => False)) :
    (TV.tup l).OK (.tuple us) := by
  refine ⟨us, rfl, hz, fun i y z h1 h2 => ?_⟩
  have := h i y z h1 (by simpa using h2)
  cases y <;> first | exact this | exact this.elim
theorem callJ_some {rs : List Rep} {R : Callee} {t : Tgt} {σ : Heap} {G : TV → Heap → Ans} (h : callJ rs R t σ (lamJ rs fun l σ => G (retT l) σ) = some r) : ∃ v x σ', R t σ = some (v, σ') ∧ x.OK v ∧ G x σ' = some r := by
  cases rs with
  | nil =>
    simp only [callJ] at h
    split at h <;> try (cases h; done)
    rename_i w σ' hR
    exact ⟨w, .bad, σ', hR, trivial, h⟩
  | cons q rs =>
    cases rs with
    | nil =>
      simp only [callJ] at h
      split at h <;> try (cases h; done)
      rename_i w σ' hR
      obtain ⟨l, g1, g2, g3⟩ := appV_lamJ (rs := [q]) h
      match l, g2 with
      | [x], _ => exact ⟨w, x, σ', hR, ok_one (g3 0 x w rfl rfl), g1⟩
    | cons q2 rs =>
      simp only [callJ] at h
      split at h <;> try (cases h; done)
      rename_i ws σ' hR
      obtain ⟨l, g1, g2, g3⟩ := appV_lamJ h
      have hlen := appV_len h
      match l, g1, g2, g3 with
      | [], g1, g2, g3 => rw [hlen] at g2; cases g2
      | [x], g1, g2, g3 => rw [hlen] at g2; simp at g2
      | x :: y :: l, g1, g2, g3 => exact ⟨.tuple ws, .tup (x :: y :: l), σ', hR, tup_ok (by simpa using g2.symm) g3, g1⟩

/-! ### reads -/
theorem ldI_some {k : IntKind} {p : Value} {σ : Heap} {K : Int → Ans} (h : ldI k p σ K = some r) : ∃ b o n, p = .pointer (some ⟨b, o, none⟩) ∧ σ.load1 b o = some (.int k n) ∧ K n = some r := by
  unfold ldI at h
  split at h <;> try (cases h; done)
  rename_i b o
  split at h <;> try (cases h; done)
  rename_i k' n hl
  obtain ⟨h1, h2⟩ := bif_get h
  rw [kbeq_eq h1] at hl
  exact ⟨b, o, n, rfl, hl, h2⟩
theorem ldB_some {p : Value} {σ : Heap} {K : Bool → Ans} (h : ldB p σ K = some r) : ∃ b o n, p = .pointer (some ⟨b, o, none⟩) ∧ σ.load1 b o = some (.bool n) ∧ K n = some r := by
  unfold ldB at h
  split at h <;> try (cases h; done)
  rename_i b o
  split at h <;> try (cases h; done)
  rename_i n hl
  exact ⟨b, o, n, rfl, hl, h⟩
theorem ldV_some {p : Value} {σ : Heap} {K : Value → Ans} (h : ldV p σ K = some r) : ∃ b o n, p = .pointer (some ⟨b, o, none⟩) ∧ σ.load1 b o = some n ∧ isAgg n = false ∧ K n = some r := by
  unfold ldV at h
  split at h <;> try (cases h; done)
  rename_i b o
  split at h <;> try (cases h; done)
  rename_i n hl
  cases ha : isAgg n with
  | true => rw [ha] at h; cases h
  | false => rw [ha] at h; exact ⟨b, o, n, rfl, hl, ha, h⟩
theorem ldG_some {m : Nat} {p : Value} {σ : Heap} {K : List Value → Ans} (h : ldG m p σ K = some r) : ∃ b o n, p = .pointer (some ⟨b, o, none⟩) ∧ σ.loadL b o m = some n ∧ K n = some r := by
  unfold ldG at h
  split at h <;> try (cases h; done)
  rename_i b o
  split at h <;> try (cases h; done)
  rename_i n hl
  exact ⟨b, o, n, rfl, hl, h⟩
theorem load_ok {P : Program} {σ : Heap} {t : TypeId} {x : TV} {u : Value} {K : TV → Ans} (h : (match repOf P t, x with
    | some (.i k), .v p => ldI k p σ fun n => K (.i k n)
    | some .b, .v p => ldB p σ fun c => K (.b c)
    | some .v, .v p => ldV p σ fun w => K (.v w)
    | some (.a n), .v p => ldG n p σ fun l => K (.a l)
    | _, _ => none) = some r) (hx : x.OK u) : ∃ v x, loadA P σ t u = some v ∧ x.OK v ∧ K x = some r := by
  split at h <;> try (cases h; done)
  · rename_i k p hq
    obtain ⟨hx, _⟩ := TV.ok_v hx
    obtain ⟨b, o, n, rfl, h1, h2⟩ := ldI_some h
    exact ⟨_, .i k n, by subst hx; simp only [loadA, aggT_not hq (by simp)]; exact h1, rfl, h2⟩
  · rename_i p hq
    obtain ⟨hx, _⟩ := TV.ok_v hx
    obtain ⟨b, o, n, rfl, h1, h2⟩ := ldB_some h
    exact ⟨_, .b n, by subst hx; simp only [loadA, aggT_not hq (by simp)]; exact h1, rfl, h2⟩
  · rename_i p hq
    obtain ⟨hx, _⟩ := TV.ok_v hx
    obtain ⟨b, o, n, rfl, h1, h3, h2⟩ := ldV_some h
    exact ⟨_, .v n, by subst hx; simp only [loadA, aggT_not hq (by simp)]; exact h1, ⟨rfl, h3⟩, h2⟩
  · rename_i m p hq
    obtain ⟨hx, _⟩ := TV.ok_v hx
    obtain ⟨b, o, n, rfl, h1, h2⟩ := ldG_some h
    obtain ⟨g1, g2⟩ := aggT_of hq
    exact ⟨_, .a n, by subst hx; simp only [loadA, g1, g2, h1], rfl, h2⟩
theorem rT_ok {P : Program} {ρ : T TV} {e : Env} {σ : Heap} {o : Oper} {K : TV → Ans} (hρ : OKE ρ e) (h : rT P ρ σ o K = some r) : ∃ v x, rA P e σ o = some v ∧ x.OK v ∧ K x = some r := by
  unfold rT at h
  rw [tl_eq] at h
  unfold rA
  split at h
  · rename_i t x ho; rw [ho]
    exact load_ok h (hρ x)
  · rename_i t x i ok ho; rw [ho]
    split at h <;> try (cases h; done)
    rename_i kt el m k n hu hm hn
    have hx := hρ x; have hi := hρ i
    rw [hm] at hx; rw [hn] at hi
    obtain ⟨hx, _⟩ := TV.ok_v hx
    have hi := TV.ok_int hi
    simp only [hx, hi]
    split at h <;> try (cases h; done)
    rename_i q hq
    split at h
    · unfold lk2 at h
      split at h <;> try (cases h; done)
      rename_i vs hl
      obtain ⟨l, g1, g2, g3⟩ := appV_lamJ h
      exact ⟨_, .tup l, hl, tup_ok (by simpa using g2.symm) g3, g1⟩
    · unfold lk1 at h
      split at h <;> try (cases h; done)
      rename_i w hl
      obtain ⟨l, g1, g2, g3⟩ := appV_lamJ (rs := [q]) h
      match l, g2 with
      | [y], _ => exact ⟨_, y, hl, ok_one (g3 0 y w rfl rfl), g1⟩
  · rename_i src dst x ho; rw [ho]
    split at h <;> try (cases h; done)
    rename_i v hv
    have hx := hρ x
    rw [hv] at hx
    obtain ⟨hx, _⟩ := TV.ok_v hx
    unfold toS at h
    split at h <;> try (cases h; done)
    rename_i w hw
    cases ha : isAgg w with
    | true => rw [ha] at h; cases h
    | false => rw [ha] at h; exact ⟨w, .v w, by simp only [hx, hw], ⟨rfl, ha⟩, h⟩
  · cases h

/-! ### what makes memory -/
theorem aT_ok {P : Program} {ρ : T TV} {e : Env} {o : Oper} {K : AObj → (Nat → TV) → Ans} (hρ : OKE ρ e) (h : aT P ρ o K = some r) :
    ∃ ob mk mk', aA P e o = some (ob, mk) ∧ (∀ id, (mk' id : TV).OK (mk id)) ∧ K ob mk' = some r := by
  unfold aT at h
  rw [tl_eq] at h
  unfold aA
  split at h
  · rename_i el ho; rw [ho]
    split at h <;> try (cases h; done)
    rename_i z hz
    exact ⟨_, ptrTo, fun id => .v (ptrTo id), by simp only [hz], fun id => ⟨rfl, rfl⟩, h⟩
  · rename_i el x ho; rw [ho]
    split at h <;> try (cases h; done)
    rename_i l hl
    have := cells_ok (hρ x) hl
    refine ⟨_, ptrTo, fun id => .v (ptrTo id), rfl, fun id => ⟨rfl, rfl⟩, ?_⟩
    rw [this]; simpa using h
  · rename_i t len ps ho; rw [ho]
    split at h <;> try (cases h; done)
    rename_i el hu
    split at h <;> try (cases h; done)
    rename_i sz z hsz hz
    split at h <;> try (cases h; done)
    rename_i hc
    split at h <;> try (cases h; done)
    rename_i cs hcs
    have hlen : (partsT ρ ps.toList).length = (ps.toList.map fun p => (p.1, e p.2)).length := by simp [partsT]
    have := fillT_ok (place' := fun i => some (i * (sz + 1), sz + 1)) (fun i => rfl) hlen (parts_at hρ _) hcs
    refine ⟨mkRow cs, fun id => .slice (some ⟨id, 0, none⟩) len len, fun id => .v (.slice (some ⟨id, 0, none⟩) len len), ?_, fun id => ⟨rfl, rfl⟩, h⟩
    simp only [hu, hsz, hz, hc, cond_true, this]
  · rename_i t l c ho; rw [ho]
    split at h <;> try (cases h; done)
    rename_i el hu
    split at h <;> try (cases h; done)
    rename_i sz z by_ k l' k' c' hsz hz hby hl hc
    have hx := hρ l; have hy := hρ c
    rw [hl] at hx; rw [hc] at hy
    have hx := TV.ok_int hx
    have hy := TV.ok_int hy
    unfold mslT at h
    split at h <;> try (cases h; done)
    rename_i a b _ _
    obtain ⟨h1, h2⟩ := bif_get h
    refine ⟨_, fun id => .slice (some ⟨id, 0, none⟩) a b, fun id => .v (.slice (some ⟨id, 0, none⟩) a b), ?_, fun id => ⟨rfl, rfl⟩, h2⟩
    simp only [hu, hx, hy, hsz, hz, hby]
    rw [show z.toList.length = z.size by simp] at h1 ⊢
    rw [show (sz + 1).beq 1 = Nat.beq sz 0 by rw [T.nbeq, T.nbeq]; simp] at *
    rw [h1]
    simp [List.head?_eq_getElem?]
  · rename_i t q ho; rw [ho]
    split at h
    · exact ⟨_, fun id => .map (some id), fun id => .v (.map (some id)), rfl, fun id => ⟨rfl, rfl⟩, h⟩
    · rename_i x
      split at h <;> try (cases h; done)
      rename_i kt el k n hu hn
      have hx := hρ x
      rw [hn] at hx
      have hx := TV.ok_int hx
      exact ⟨_, fun id => .map (some id), fun id => .v (.map (some id)), by simp only [hu, hx], fun id => ⟨rfl, rfl⟩, h⟩
  · cases h

/-! ### writes -/
theorem stN_some {n : Nat} {p : Value} {vs : List Value} {σ : Heap} {K : Heap → Ans} (h : stN n p vs σ K = some r) :
    ∃ b o σ', p = .pointer (some ⟨b, o, none⟩) ∧ vs.length = n ∧ putL σ b o vs = some σ' ∧ K σ' = some r := by
  unfold stN at h
  obtain ⟨h1, h2⟩ := bif_get h
  unfold stP at h2
  split at h2 <;> try (cases h2; done)
  rename_i b o
  rw [stQ_eq] at h2
  split at h2 <;> try (cases h2; done)
  rename_i σ' hp
  exact ⟨b, o, σ', rfl, by simpa using h1, hp, h2⟩
theorem byH_some {x : Option Heap} {K : Heap → Ans} (h : byH x K = some r) : ∃ σ', x = some σ' ∧ K σ' = some r := by
  unfold byH at h
  split at h <;> try (cases h; done)
  rw [forceH_eq] at h
  exact ⟨_, rfl, h⟩
theorem byV_some {x : Option (Value × Heap)} {K : Value → Heap → Ans} (h : byV x K = some r) : ∃ w σ', x = some (w, σ') ∧ isAgg w = false ∧ K w σ' = some r := by
  unfold byV at h
  split at h <;> try (cases h; done)
  rename_i w σ'
  cases ha : isAgg w with
  | true => rw [ha] at h; cases h
  | false => rw [ha] at h; simp only [cond_false, forceH_eq] at h; exact ⟨w, σ', rfl, ha, h⟩
theorem fastA_agg {P : Program} {σ σ' : Heap} {es by_ len cap : Nat} {zt : Option TypeId} {base : Option Addr} {x u : Value} (h : fastA P σ es by_ zt base len cap x = some (u, σ')) : isAgg u = false := by
  unfold fastA at h
  split at h <;> try (cases h; done)
  obtain ⟨_, h⟩ := bif_o h
  split at h <;> try (cases h; done)
  obtain ⟨_, h⟩ := bif_o h
  cases h; rfl
theorem slowA_agg {P : Program} {σ σ' : Heap} {es by_ len cap : Nat} {z : Array Value} {zt : Option TypeId} {base : Option Addr} {x u : Value} (h : slowA P σ es by_ z zt base len cap x = some (u, σ')) : isAgg u = false := by
  unfold slowA at h
  split at h <;> try (cases h; done)
  rename_i n vs hv
  cases hc : Nat.ble (len + n) cap with
  | true =>
    rw [hc] at h
    simp only [cond_true] at h
    cases he : vs.isEmpty with
    | true => rw [he] at h; cases h; rfl
    | false =>
      rw [he] at h
      simp only [cond_false] at h
      split at h <;> try (cases h; done)
      split at h <;> try (cases h; done)
      cases h; rfl
  | false =>
    rw [hc] at h
    simp only [cond_false] at h
    obtain ⟨_, h⟩ := bif_o h
    split at h
    · obtain ⟨_, h⟩ := bif_o h; cases h; rfl
    · split at h <;> try (cases h; done)
      obtain ⟨_, h⟩ := bif_o h
      split at h <;> try (cases h; done)
      split at h
      · cases h; rfl
      · obtain ⟨_, h⟩ := bif_o h; cases h; rfl
theorem toVsT_one {ρ : T TV} {e : Env} (hρ : OKE ρ e) {x : Operand} {w : Value} (h : toVsT [evT ρ x] = some [w]) : w = e x := by
  have := map_ok hρ (l := [x]) h
  simpa using this
theorem wT_ok {P : Program} {ρ : T TV} {e : Env} {σ : Heap} {o : Oper} {K : TV → Heap → Ans} (hρ : OKE ρ e) (h : wT P ρ σ o K = some r) :
    ∃ v x σ', wA P e σ o = some (v, σ') ∧ x.OK v ∧ K x σ' = some r := by
  unfold wT at h
  rw [tl_eq] at h
  unfold wA
  split at h
  · rename_i t x y ho; rw [ho]
    split at h <;> try (cases h; done)
    rename_i n p vs hn hp hvs
    have hx := hρ x
    rw [hp] at hx
    obtain ⟨hx, _⟩ := TV.ok_v hx
    have hc := cells_ok (hρ y) hvs
    obtain ⟨b, o', σ', rfl, h1, h2, h3⟩ := stN_some h
    refine ⟨undef, .bad, σ', ?_, trivial, h3⟩
    simp [storeA, hx, hn, hc, h1, h2]
  · rename_i t m k v ho; rw [ho]
    split at h <;> try (cases h; done)
    rename_i m' q n w hm hn hw
    have h1 := hρ m; have h2 := hρ k
    rw [hm] at h1; rw [hn] at h2
    obtain ⟨h1, _⟩ := TV.ok_v h1
    have h2 := TV.ok_int h2
    have h3 := toVsT_one hρ hw
    obtain ⟨σ', g1, g2⟩ := byH_some h
    exact ⟨undef, .bad, σ', by simp [h1, h2, ← h3, g1], trivial, g2⟩
  · rename_i t m k v ho; rw [ho]
    split at h <;> try (cases h; done)
    rename_i m' q n w hm hn hw
    have h1 := hρ m; have h2 := hρ k
    rw [hm] at h1; rw [hn] at h2
    obtain ⟨h1, _⟩ := TV.ok_v h1
    have h2 := TV.ok_int h2
    have h3 := toVsT_one hρ hw
    obtain ⟨σ', g1, g2⟩ := byH_some h
    exact ⟨undef, .bad, σ', by simp [h1, h2, ← h3, g1], trivial, g2⟩
  · rename_i src dst x ho; rw [ho]
    split at h <;> try (cases h; done)
    rename_i v hv
    have hx := hρ x
    rw [hv] at hx
    obtain ⟨hx, _⟩ := TV.ok_v hx
    obtain ⟨w, σ', g1, g2, g3⟩ := byV_some h
    refine ⟨w, .v w, σ', ?_, ⟨rfl, g2⟩, g3⟩
    simp only [hx]; exact g1
  · rename_i c ho; rw [ho]
    split at h
    · rename_i hc
      simp only [hc]
      split at h <;> try (cases h; done)
      rename_i t ts x y xs hts hxs
      split at h <;> try (cases h; done)
      rename_i elem hu
      split at h <;> try (cases h; done)
      rename_i es by_ z hes hby hz
      split at h <;> try (cases h; done)
      rename_i hg
      split at h <;> try (cases h; done)
      rename_i v w hv hw
      have hx := hρ x
      rw [hv] at hx
      obtain ⟨hx, _⟩ := TV.ok_v hx
      have hy := toVsT_one hρ hw
      have hx0 : (c.args.map e)[0]? = some (e x) := by rw [Array.getElem?_map, arr_get hxs]; rfl
      have hx1 : (c.args.map e)[1]? = some (e y) := by rw [Array.getElem?_map, arr_get1 hxs]; rfl
      have ht1 : c.argTypes[1]? = ts.head? := by rw [← Array.getElem?_toList, hts]; cases ts <;> rfl
      unfold appS at h
      split at h <;> try (cases h; done)
      rename_i base len cap _ _
      unfold appendA
      rw [arr_get hts, hx0, hx1, hx, ht1, ← hy]
      simp only [hu, hes, hby, hz, hg, cond_true]
      split at h
      · rename_i u σ' hf
        rw [forceS_eq, forceAt_eq] at h
        exact ⟨u, .v u, σ', by rw [hf], ⟨rfl, fastA_agg hf⟩, h⟩
      · rename_i hf
        split at h <;> try (cases h; done)
        rename_i u σ' hs
        rw [forceS_eq, forceAt_eq] at h
        have hs' : slowA P σ es by_ z ts.head? base len cap w = some (u, σ') := by simpa using hs
        exact ⟨u, .v u, σ', by rw [hf]; exact hs', ⟨rfl, slowA_agg hs'⟩, h⟩
    · rename_i hc
      simp only [hc]
      split at h <;> try (cases h; done)
      rename_i t ts x y xs hts hxs
      split at h <;> try (cases h; done)
      rename_i elem hu
      split at h <;> try (cases h; done)
      rename_i es v w hes hv hw
      have hx := hρ x
      rw [hv] at hx
      obtain ⟨hx, _⟩ := TV.ok_v hx
      have hy := hρ y
      rw [hw] at hy
      obtain ⟨hy, _⟩ := TV.ok_v hy
      have hx0 : (c.args.map e)[0]? = some (e x) := by rw [Array.getElem?_map, arr_get hxs]; rfl
      have hx1 : (c.args.map e)[1]? = some (e y) := by rw [Array.getElem?_map, arr_get1 hxs]; rfl
      unfold copS at h
      split at h <;> try (cases h; done)
      rename_i base dl cap _ _
      split at h <;> try (cases h; done)
      rename_i sl hsl
      split at h <;> try (cases h; done)
      rename_i vs hvs
      unfold copyA
      rw [arr_get hts, hx0, hx1, hx, hy]
      simp only [hu, hes, hsl, hvs]
      split at h
      · exact ⟨_, .i .i64 (.ofNat (Nat.min sl dl)), _, rfl, rfl, h⟩
      · split at h <;> try (cases h; done)
        rename_i σ' hp
        rw [forceAt_eq] at h
        exact ⟨_, .i .i64 (.ofNat (Nat.min sl dl)), σ', by simp only [hp]; rfl, rfl, h⟩
    · rename_i hc
      simp only [hc]
      split at h <;> try (cases h; done)
      rename_i vs hvs
      have h1 := map_ok hρ hvs
      have h2 : vs.toArray = c.args.map e := by rw [h1]; apply Array.toList_inj.1; simp
      obtain ⟨σ', g1, g2⟩ := byH_some h
      rw [h2] at g1
      exact ⟨undef, .bad, σ', by simp [g1], trivial, g2⟩
    · rename_i hc
      simp only [hc]
      split at h <;> try (cases h; done)
      rename_i vs hvs
      have h1 := map_ok hρ hvs
      have h2 : vs.toArray = c.args.map e := by rw [h1]; apply Array.toList_inj.1; simp
      obtain ⟨σ', g1, g2⟩ := byH_some h
      rw [h2] at g1
      exact ⟨undef, .bad, σ', by simp [g1], trivial, g2⟩
    · cases h
  · cases h

/-! ### calls -/
theorem fnOf_some {f : Value} {args : List Value} {K : Tgt → Ans} (h : fnOf f args K = some r) :
    (∃ g first cap, f = .func (.func g) first cap ∧ K (.fn g (first ++ args.toArray ++ cap)) = some r) ∨ ∃ l first cap, f = .func (.yield l) first cap ∧ K (.round l (first ++ args.toArray)) = some r := by
  unfold fnOf at h
  split at h
  · exact .inl ⟨_, _, _, rfl, h⟩
  · exact .inr ⟨_, _, _, rfl, h⟩
  · cases h
theorem cT_ok {P : Program} {R : Callee} {ρ : T TV} {e : Env} {σ : Heap} {o : Oper} {K : TV → Heap → Ans} (he : ∀ f, e (.func f) = .func (.func f) #[] #[]) (hρ : OKE ρ e) (h : cT P R ρ σ o K = some r) :
    ∃ t v x σ', tgtOf e o = some t ∧ R t σ = some (v, σ') ∧ x.OK v ∧ K x σ' = some r := by
  unfold cT at h
  rw [tl_eq] at h
  unfold tgtOf
  split at h <;> try (cases h; done)
  rename_i c ho; rw [ho]
  split at h <;> try (cases h; done)
  rename_i f hc
  simp only [hc]
  split at h <;> try (cases h; done)
  rename_i rs vs hrs hvs
  have h1 := map_ok hρ hvs
  have h2 : vs.toArray = c.args.map e := by rw [h1]; apply Array.toList_inj.1; simp
  split at h
  · rename_i g
    obtain ⟨v, x, σ', g1, g2, g3⟩ := callJ_some h
    exact ⟨.fn g vs.toArray, v, x, σ', by simp [he, h2], g1, g2, g3⟩
  · split at h <;> try (cases h; done)
    rename_i w hw
    have hx := hρ f
    rw [hw] at hx
    obtain ⟨hx, _⟩ := TV.ok_v hx
    rcases fnOf_some h with ⟨g, first, cap, rfl, h⟩ | ⟨l, first, cap, rfl, h⟩
    · obtain ⟨v, x, σ', g1, g2, g3⟩ := callJ_some h
      exact ⟨_, v, x, σ', by simp only [hx, h2], g1, g2, g3⟩
    · obtain ⟨v, x, σ', g1, g2, g3⟩ := callJ_some h
      exact ⟨_, v, x, σ', by simp only [hx, h2], g1, g2, g3⟩
end
end Go.Idl

/- The typed machine, part g: regions are right. -/
namespace Go.Idl
open Go
noncomputable section
variable {r : Value × Heap}

theorem OKE.get {ρ : T TV} {a : Fr} (h : OKE ρ a.ev) (t : Nat) : ((ρ.get t).getD .bad).OK ((a.tm.get t).getD undef) := h (.tmp t)
theorem oke_of {ρ : T TV} {a : Fr} (h : ∀ t : Nat, ((ρ.get t).getD .bad).OK ((a.tm.get t).getD undef)) : OKE ρ a.ev := by
  intro x
  cases x with
  | tmp t => exact h t
  | const v => exact cst_ok v
  | global g => exact trivial
  | func f => exact ⟨rfl, rfl⟩
theorem OKE.put {ρ : T TV} {a : Fr} (h : OKE ρ a.ev) {x : TV} {v : Value} (d : Option Tmp) (hx : x.OK v) : OKE (putT ρ d x) (a.put d v).ev := by
  cases d with
  | none => exact h
  | some d =>
    refine oke_of fun t => ?_
    simp only [putT, Fr.put, T.get_set]
    by_cases ht : t = d
    · simp only [ht, if_true, Option.getD_some]; exact hx
    · simp only [if_neg ht]; exact h.get t
theorem put_n (a : Fr) (d : Option Tmp) (v : Value) : (a.put d v).n = a.n := by cases d <;> rfl
theorem OKE.same {ρ : T TV} {a : Fr} (h : OKE ρ a.ev) {x : TV} {d : Nat} (hx : x.OK ((a.tm.get d).getD undef)) : OKE (ρ.set d x) a.ev := by
  refine oke_of fun t => ?_
  simp only [T.get_set]
  by_cases ht : t = d
  · simp only [ht, if_true, Option.getD_some]; exact hx
  · simp only [if_neg ht]; exact h.get t
theorem gdT_ok {ops : Array Oper} {o : Oper} {ρ : T TV} {a : Fr} {K : T TV → Bool → Ans} (hρ : OKE ρ a.ev) (h : gdT ops o ρ K = some r) : ∃ ρ', OKE ρ' a.ev ∧ K ρ' (wantedA ops a o) = some r := by
  unfold gdT at h
  rw [tl_eq] at h
  unfold wantedA
  split at h
  · rename_i hg; rw [hg]; exact ⟨ρ, hρ, h⟩
  · rename_i j w hg
    rw [hg]
    split at h <;> try (cases h; done)
    rename_i q hq
    rw [nthL_eq, Array.getElem?_toList] at hq
    split at h <;> try (cases h; done)
    rename_i d hd
    simp only [hq, hd]
    have hx := hρ.get d
    split at h <;> try (cases h; done)
    · rename_i c hc
      rw [hc] at hx
      have hx : (a.tm.get d).getD undef = .bool c := TV.ok_b hx
      have hget : a.tm.get d = some (.bool c) := by
        cases hh : a.tm.get d with
        | none => rw [hh] at hx; cases hx
        | some u => rw [hh] at hx; simp only [Option.getD_some] at hx; rw [hx]
      simp only [hget]
      rw [cndT_eq] at h
      cases c with
      | true => exact ⟨_, hρ.same (x := .b true) (by rw [hget]; rfl), by rw [show (true == w) = w by cases w <;> rfl]; exact h⟩
      | false => exact ⟨_, hρ.same (x := .b false) (by rw [hget]; rfl), by rw [show (false == w) = !w by cases w <;> rfl]; exact h⟩
    · rename_i hc
      rw [hc] at hx
      have hx : (a.tm.get d).getD undef = undef := hx
      refine ⟨ρ, hρ, ?_⟩
      cases hh : a.tm.get d with
      | none => exact h
      | some u =>
        rw [hh] at hx
        simp only [Option.getD_some] at hx
        subst hx
        exact h
theorem skipT_ok {o : Oper} {ρ : T TV} {a : Fr} {K : T TV → Ans} (hρ : OKE ρ a.ev) (h : skipT o ρ K = some r) : ∃ ρ', OKE ρ' (a.put o.dst undef).ev ∧ K ρ' = some r := by
  unfold skipT at h
  rw [tl_eq] at h
  split at h
  · rename_i d hd
    have := hρ.put (x := .und) (v := undef) (some d) rfl
    rw [hd]; exact ⟨_, this, h⟩
  · rename_i hd; rw [hd]; exact ⟨_, hρ, h⟩
theorem opT_ok {P : Program} {R : Callee} {ρ : T TV} {a : Fr} {σ : Heap} {o : Oper} {K : TV → Heap → Ans} (hρ : OKE ρ a.ev) (h : opT P R ρ σ o K = some r) :
    ∃ v x σ', stepD P R a.ev σ o = some (v, σ') ∧ x.OK v ∧ K x σ' = some r := by
  unfold opT at h
  rw [tl_eq] at h
  unfold stepD
  split at h
  · rename_i hc; rw [hc]
    obtain ⟨v, x, h1, h2, h3⟩ := pT_ok hρ h
    exact ⟨v, x, σ, by simp only [h1], h2, h3⟩
  · rename_i hc; rw [hc]
    obtain ⟨v, x, h1, h2, h3⟩ := rT_ok hρ h
    exact ⟨v, x, σ, by simp only [h1], h2, h3⟩
  · rename_i hc; rw [hc]
    obtain ⟨ob, mk, mk', h1, h2, h3⟩ := aT_ok hρ h
    simp only [newO, forceN_eq, forceO_eq, forceH_eq] at h3
    exact ⟨mk σ.next, mk' σ.next, σ.new ob, by simp only [h1], h2 _, h3⟩
  · rename_i hc; rw [hc]
    obtain ⟨v, x, σ', h1, h2, h3⟩ := wT_ok hρ h
    exact ⟨v, x, σ', h1, h2, h3⟩
  · rename_i hc; rw [hc]
    obtain ⟨t, v, x, σ', h1, h2, h3, h4⟩ := cT_ok (fun f => rfl) hρ h
    exact ⟨v, x, σ', by simp only [h1, h2], h3, h4⟩
  · cases h
theorem regT_ok {P : Program} {R : Callee} {ops : Array Oper} {N : T TV → Heap → Ans} : ∀ {l : List Oper} {ρ : T TV} {a : Fr} {σ : Heap}, OKE ρ a.ev → regT P R ops l N ρ σ = some r →
    ∃ a' ρ' σ', regSeq P R ops l a σ = some (a', σ') ∧ OKE ρ' a'.ev ∧ N ρ' σ' = some r
  | [], ρ, a, σ, hρ, h => ⟨a, ρ, σ, rfl, hρ, h⟩
  | o :: l, ρ, a, σ, hρ, h => by
    have h : gdT ops o ρ (fun ρ w => match w with
      | true => opT P R ρ σ o fun x σ => regT P R ops l N (putT ρ o.dst x) σ
      | false => skipT o ρ fun ρ => regT P R ops l N ρ σ) = some r := h
    obtain ⟨ρ1, h1, h2⟩ := gdT_ok hρ h
    simp only [regSeq]
    cases hw : wantedA ops a o with
    | true =>
      rw [hw] at h2
      obtain ⟨v, x, σ1, g1, g2, g3⟩ := opT_ok h1 h2
      simp only [cond_true, g1]
      exact regT_ok (h1.put o.dst g2) g3
    | false =>
      rw [hw] at h2
      obtain ⟨ρ2, g1, g2⟩ := skipT_ok h1 h2
      simp only [cond_false]
      exact regT_ok g1 g2

/-! ### regions that draw -/
theorem sameTV_ok {x y : TV} {u v : Value} (h : sameTV y x = true) (hy : y.OK u) (hx : x.OK v) : veq u v = true := by
  cases y <;> cases x <;> (try (cases h; done))
  · rename_i k n q m
    rw [TV.ok_int hy, TV.ok_int hx]
    simp only [sameTV, Bool.and_eq_true] at h
    obtain rfl := kbeq_eq h.1
    have := h.2
    rw [eqI_eq] at this
    simp only [decide_eq_true_eq] at this
    subst this
    simp [veq, veq1]
  · rename_i a b
    rw [TV.ok_b hy, TV.ok_b hx]
    cases a <;> cases b <;> first | rfl | cases h
  · rename_i a b
    rw [(TV.ok_v hy).1, (TV.ok_v hx).1]
    exact h
  · rename_i l m
    rw [TV.ok_a hy, TV.ok_a hx]
    exact h
theorem chkT_ok {P : Program} {ρ : T TV} {e : Env} {o : Oper} {x : TV} {v : Value} {K : Ans} (hρ : OKE ρ e) (hx : x.OK v) : ∀ {l : List Heap}, chkT P ρ o x K l = some r → allSame (fun τ => rA P e τ o) v l = true ∧ K = some r
  | [], h => ⟨rfl, h⟩
  | τ :: l, h => by
    simp only [chkT] at h
    obtain ⟨u, y, h1, h2, h3⟩ := rT_ok hρ h
    rw [cndT_eq] at h3
    obtain ⟨h4, h5⟩ := bif_get h3
    obtain ⟨g1, g2⟩ := chkT_ok hρ hx h5
    exact ⟨by simp only [allSame, h1, sameTV_ok h4 h2 hx, g1, Bool.and_self], g2⟩
theorem preT_ok {P : Program} {ops : Array Oper} {ms : List Nat} {base : Nat} {hs : List Heap} {K : T TV → List (Nat × AObj) → Ans} : ∀ {l : List Nat} {ρ : T TV} {a : Fr} {obs : List (Nat × AObj)},
    OKE ρ a.ev → preT P ops ms base hs l ρ obs K = some r → ∃ a' obs' ρ', preD P ops ms base hs l a = some (a', obs') ∧ OKE ρ' a'.ev ∧ K ρ' (obs ++ obs') = some r
  | [], ρ, a, obs, hρ, h => ⟨a, [], ρ, rfl, hρ, by simpa [preT] using h⟩
  | i :: l, ρ, a, obs, hρ, h => by
    simp only [preT] at h
    simp only [preD]
    split at h <;> try (cases h; done)
    rename_i o ho
    rw [nthL_eq, Array.getElem?_toList] at ho
    simp only [ho]
    obtain ⟨ρ1, h1, h2⟩ := gdT_ok hρ h
    cases hw : wantedA ops a o with
    | true =>
      rw [hw] at h2
      simp only [cond_true] at h2 ⊢
      split at h2
      · rename_i hc; rw [hc]
        obtain ⟨v, x, g1, g2, g3⟩ := pT_ok h1 h2
        simp only [g1]
        exact preT_ok (h1.put o.dst g2) g3
      · rename_i hc; rw [hc]
        split at h2 <;> try (cases h2; done)
        rename_i τ more hd
        obtain ⟨v, x, g1, g2, g3⟩ := rT_ok h1 h2
        obtain ⟨g4, g5⟩ := chkT_ok h1 g2 g3
        simp only [hd, g1, g4, cond_true]
        exact preT_ok (h1.put o.dst g2) g5
      · rename_i hc; rw [hc]
        obtain ⟨ob, mk, mk', g1, g2, g3⟩ := aT_ok h1 h2
        obtain ⟨a', obs', ρ', e1, e2, e3⟩ := preT_ok (h1.put o.dst (g2 (base + i))) g3
        simp only [g1, e1]
        exact ⟨a', (i, ob) :: obs', ρ', rfl, e2, by simpa using e3⟩
      · cases h2
    | false =>
      rw [hw] at h2
      obtain ⟨ρ2, g1, g2⟩ := skipT_ok h1 h2
      simp only [cond_false]
      exact preT_ok g1 g2
theorem putsT_ok {base : Nat} {obs : List (Nat × AObj)} {σ : Heap} {K : Heap → Ans} (h : putsT base obs σ K = some r) : K (puts base obs σ) = some r := by
  unfold putsT at h
  rw [tl_eq] at h
  split at h
  · exact h
  · simpa [puO] using h
theorem stagesT_ok {P : Program} {R : Callee} {ops : Array Oper} {ms : List Nat} {base : Nat} {N : T TV → Heap → Ans} {tail : List Nat} : ∀ {st : List (List Nat × Nat)} {ρ : T TV} {a : Fr} {σ : Heap} {hs : List Heap},
    OKE ρ a.ev → stagesT P R ops ms base N st tail ρ σ hs = some r → ∃ a' ρ' σ', stagesD P R ops ms base st tail a σ hs = some (a', σ') ∧ OKE ρ' a'.ev ∧ N ρ' σ' = some r
  | [], ρ, a, σ, hs, hρ, h => by
    simp only [stagesT] at h
    obtain ⟨a', obs', ρ', g1, g2, g3⟩ := preT_ok hρ h
    have := putsT_ok g3
    exact ⟨a', ρ', puts base obs' σ, by simp only [stagesD, g1], g2, by simpa using this⟩
  | (need, s) :: rest, ρ, a, σ, hs, hρ, h => by
    simp only [stagesT] at h
    obtain ⟨a1, obs', ρ1, g1, g2, g3⟩ := preT_ok hρ h
    have h1 := putsT_ok g3
    simp only [List.nil_append] at h1
    split at h1 <;> try (cases h1; done)
    rename_i o ho
    rw [nthL_eq, Array.getElem?_toList] at ho
    simp only [stagesD, g1, ho]
    obtain ⟨ρ2, e1, e2⟩ := gdT_ok g2 h1
    cases hw : wantedA ops a1 o with
    | true =>
      rw [hw] at e2
      obtain ⟨v, x, σ2, f1, f2, f3⟩ := opT_ok e1 e2
      simp only [cond_true, f1]
      exact stagesT_ok (e1.put o.dst f2) f3
    | false =>
      rw [hw] at e2
      obtain ⟨ρ3, f1, f2⟩ := skipT_ok e1 e2
      simp only [cond_false]
      exact stagesT_ok f1 f2
theorem drawT_ok {P : Program} {R : Callee} {ops : Array Oper} {N : T TV → Heap → Ans} {ρ : T TV} {a : Fr} {σ : Heap} (hρ : OKE ρ a.ev) (h : drawT P R ops N ρ σ = some r) :
    ∃ a' ρ' σ', regDraw P R ops a σ = some (a', σ') ∧ OKE ρ' a'.ev ∧ N ρ' σ' = some r := by
  unfold drawT at h
  rw [tl_eq] at h
  unfold regDraw
  split at h <;> try (cases h; done)
  rename_i hc
  simp only [heH, forceN_eq, forceH_eq] at h
  simp only [hc, cond_true]
  exact stagesT_ok hρ h
end
end Go.Idl

/- The typed machine, part h: statements and functions are right. -/
namespace Go.Idl
open Go
noncomputable section
variable {r : Value × Heap}

theorem appJ_lamJ : ∀ {rs : List Rep} {G : List TV → Heap → Ans} {l : List TV} {σ : Heap}, appJ rs (lamJ rs G) l σ = some r → G l σ = some r
  | [], G, l, σ, h => by cases l with | nil => exact h | cons x l => cases h
  | .i k :: rs, G, l, σ, h => by
    cases l with
    | nil => cases h
    | cons x l =>
      cases x <;> try (cases h; done)
      rename_i k' n
      obtain ⟨h1, h2⟩ := bif_get h
      obtain rfl := kbeq_eq h1
      exact appJ_lamJ (rs := rs) (G := fun vs => G (.i k' n :: vs)) h2
  | .b :: rs, G, l, σ, h => by
    cases l with
    | nil => cases h
    | cons x l =>
      cases x <;> try (cases h; done)
      exact appJ_lamJ (rs := rs) (G := fun vs => G (.b _ :: vs)) h
  | .v :: rs, G, l, σ, h => by
    cases l with
    | nil => cases h
    | cons x l =>
      cases x <;> try (cases h; done)
      exact appJ_lamJ (rs := rs) (G := fun vs => G (.v _ :: vs)) h
  | .a n :: rs, G, l, σ, h => by
    cases l with
    | nil => cases h
    | cons x l =>
      cases x <;> try (cases h; done)
      exact appJ_lamJ (rs := rs) (G := fun vs => G (.a _ :: vs)) h
theorem getL_nil (ρ : T TV) : getL [] ρ = [] := rfl
theorem getL_cons (x : Nat × Rep) (vs : List (Nat × Rep)) (ρ : T TV) : getL (x :: vs) ρ = (ρ.get x.1).getD .bad :: getL vs ρ := rfl
theorem envL_cons (x : Nat × Rep) (vs : List (Nat × Rep)) (y : TV) (l : List TV) : envL (x :: vs) (y :: l) = (envL vs l).set x.1 y := rfl
theorem envL_ok {ρ : T TV} {a : Fr} (hρ : OKE ρ a.ev) : ∀ vs : List (Nat × Rep), OKE (envL vs (getL vs ρ)) a.ev
  | [] => oke_of fun t => by
    show TV.OK (((T.e : T TV).get t).getD .bad) _
    simp [TV.OK]
  | x :: vs => by
    rw [getL_cons, envL_cons]
    exact (envL_ok hρ vs).same (hρ.get x.1)
/-- how a statement ends -/
def Ends (N : T TV → Heap → Ans) (E : Nat → T TV → Heap → Ans) (F : T TV → Heap → Ans) (r : Value × Heap) (x : AExit × St × Heap) : Prop :=
  ∃ ρ', OKE ρ' x.2.1.fr.ev ∧ match x.1 with
    | .normal => N ρ' x.2.2 = some r
    | .exit i => E i ρ' x.2.2 = some r
    | .ret => F ρ' x.2.2 = some r
theorem codeT_ok {P : Program} {L : Nat} {R : Callee} : ∀ {c : Code} {an : Ann} {N : T TV → Heap → Ans} {E : Nat → T TV → Heap → Ans} {F : T TV → Heap → Ans} {ρ : T TV} {st : St} {σ : Heap},
    OKE ρ st.fr.ev → codeT P L R c an N E F ρ σ = some r → ∃ x, codeD P L R false c st σ = some x ∧ Ends N E F r x := by
  intro c
  induction c with
  | skip => intro an N E F ρ st σ hρ h; exact ⟨(.normal, st, σ), rfl, ρ, hρ, h⟩
  | label l => intro an N E F ρ st σ hρ h; exact ⟨(.normal, st, σ), rfl, ρ, hρ, h⟩
  | region id ops draw =>
    intro an N E F ρ st σ hρ h
    cases draw with
    | true =>
      obtain ⟨a', ρ', σ', h1, h2, h3⟩ := drawT_ok hρ h
      exact ⟨_, by simp only [codeD, cond_true, h1]; rfl, ρ', h2, h3⟩
    | false =>
      obtain ⟨a', ρ', σ', h1, h2, h3⟩ := regT_ok hρ h
      exact ⟨_, by simp only [codeD, cond_false, h1]; rfl, ρ', h2, h3⟩
  | seq x y ihx ihy =>
    intro an N E F ρ st σ hρ h
    cases an with
    | s a b =>
      obtain ⟨⟨e, st', σ'⟩, h1, ρ', h2, h3⟩ := ihx hρ h
      cases e with
      | normal =>
        obtain ⟨z, g1, g2⟩ := ihy h2 h3
        exact ⟨z, by simp only [codeD, h1]; exact g1, g2⟩
      | exit i => exact ⟨(.exit i, st', σ'), by simp only [codeD, h1], ρ', h2, h3⟩
      | ret => exact ⟨(.ret, st', σ'), by simp only [codeD, h1], ρ', h2, h3⟩
    | j vs a b =>
      obtain ⟨⟨e, st', σ'⟩, h1, ρ', h2, h3⟩ := ihx hρ h
      cases e with
      | normal =>
        have h4 := appJ_lamJ h3
        obtain ⟨z, g1, g2⟩ := ihy (envL_ok h2 vs) h4
        exact ⟨z, by simp only [codeD, h1]; exact g1, g2⟩
      | exit i => exact ⟨(.exit i, st', σ'), by simp only [codeD, h1], ρ', h2, h3⟩
      | ret => exact ⟨(.ret, st', σ'), by simp only [codeD, h1], ρ', h2, h3⟩
    | _ => cases h
  | cond c x y ihx ihy =>
    intro an N E F ρ st σ hρ h
    cases an with
    | c a b =>
      simp only [codeT] at h
      split at h <;> try (cases h; done)
      rename_i t ht
      have hx := hρ c
      rw [ht] at hx
      have hx := TV.ok_b hx
      rw [cndT_eq] at h
      cases t with
      | true =>
        obtain ⟨z, g1, g2⟩ := ihx hρ h
        exact ⟨z, by simp only [codeD, hx, cond_true]; exact g1, g2⟩
      | false =>
        obtain ⟨z, g1, g2⟩ := ihy hρ h
        exact ⟨z, by simp only [codeD, hx, cond_false]; exact g1, g2⟩
    | _ => cases h
  | block id x ih =>
    intro an N E F ρ st σ hρ h
    cases an with
    | b a =>
      simp only [codeT] at h
      obtain ⟨⟨e, st', σ'⟩, h1, ρ', h2, h3⟩ := ih hρ h
      cases e with
      | normal => exact ⟨(.normal, st', σ'), by simp only [codeD, h1], ρ', h2, h3⟩
      | ret => exact ⟨(.ret, st', σ'), by simp only [codeD, h1], ρ', h2, h3⟩
      | exit i =>
        simp only at h3
        cases hi : Nat.beq i id with
        | true => rw [hi] at h3; exact ⟨(.normal, st', σ'), by simp only [codeD, h1, hi, cond_true], ρ', h2, h3⟩
        | false => rw [hi] at h3; exact ⟨(.exit i, st', σ'), by simp only [codeD, h1, hi, cond_false], ρ', h2, h3⟩
    | _ => cases h
  | loop x ih =>
    intro an N E F ρ st σ hρ h
    cases an with
    | l vs a =>
      simp only [codeT] at h
      have key : ∀ (n : Nat) (ρ : T TV) (st : St) (σ : Heap), OKE ρ st.fr.ev →
          appJ (repsV vs) (loopN (botJ (repsV vs)) (fun self => lamJ (repsV vs) fun l σ => codeT P L R x a (fun ρ σ => appJ (repsV vs) self (getL vs ρ) σ) E F (envL vs l) σ) n) (getL vs ρ) σ = some r →
          ∃ z, loopD (fun st σ => codeD P L R false x st σ) n st σ = some z ∧ Ends N E F r z := by
        intro n
        induction n with
        | zero =>
          intro ρ st σ _ h
          have := appJ_lamJ (rs := repsV vs) (G := fun _ _ => none) h
          cases this
        | succ n ihn =>
          intro ρ st σ hρ h
          have h1 := appJ_lamJ (rs := repsV vs) h
          obtain ⟨⟨e, st', σ'⟩, h2, ρ', h3, h4⟩ := ih (envL_ok hρ vs) h1
          cases e with
          | normal =>
            obtain ⟨z, g1, g2⟩ := ihn ρ' st' σ' h3 h4
            exact ⟨z, by simp only [loopD, h2]; exact g1, g2⟩
          | exit i => exact ⟨(.exit i, st', σ'), by simp only [loopD, h2], ρ', h3, h4⟩
          | ret => exact ⟨(.ret, st', σ'), by simp only [loopD, h2], ρ', h3, h4⟩
      obtain ⟨z, g1, g2⟩ := key L ρ st σ hρ h
      exact ⟨z, by simp only [codeD]; exact g1, g2⟩
    | _ => cases h
  | exit id => intro an N E F ρ st σ hρ h; exact ⟨(.exit id, st, σ), rfl, ρ, hρ, h⟩
  | scope x ih =>
    intro an N E F ρ st σ hρ h
    simp only [codeT] at h
    obtain ⟨z, g1, g2⟩ := ih hρ h
    exact ⟨z, by simp only [codeD]; exact g1, g2⟩
  | ret => intro an N E F ρ st σ hρ h; exact ⟨(.ret, st, σ), rfl, ρ, hρ, h⟩
  | rangeFunc f ps x y ihx ihy => intro an N E F ρ st σ hρ h; cases h
  | goto l => intro an N E F ρ st σ hρ h; cases h
  | refuse w => intro an N E F ρ st σ hρ h; cases h
theorem resT_ok {P : Program} {ρ : T TV} {a : Fr} {σ : Heap} (hρ : OKE ρ a.ev) : ∀ {l : List ResultVar} {K : List Value → Ans}, resT P l ρ σ K = some r → ∃ vs, resultsA P a σ l = some vs ∧ K vs = some r
  | [], K, h => ⟨[], rfl, h⟩
  | .tmp t :: l, K, h => by
    simp only [resT] at h
    split at h <;> try (cases h; done)
    rename_i v hv
    have hv' : v = a.ev (.tmp t) := toVsT_one hρ (x := .tmp t) hv
    obtain ⟨vs, h1, h2⟩ := resT_ok hρ h
    exact ⟨v :: vs, by simp only [resultsA, h1, hv'], h2⟩
  | .cell x t :: l, K, h => by
    simp only [resT] at h
    have fin : ∀ {v : Value} {K' : List Value → Ans}, loadA P σ t (a.ev (.tmp x)) = some v → resT P l ρ σ (fun vs => K (v :: vs)) = some r → ∃ vs, resultsA P a σ (.cell x t :: l) = some vs ∧ K vs = some r := by
      intro v K' hl hh
      obtain ⟨vs, h1, h2⟩ := resT_ok hρ hh
      exact ⟨v :: vs, by simp only [resultsA, h1, hl], h2⟩
    have hx := hρ.get x
    have hev : a.ev (.tmp x) = (a.tm.get x).getD undef := rfl
    split at h <;> try (cases h; done)
    · rename_i p k hp hq
      rw [hp] at hx
      obtain ⟨hx, _⟩ := TV.ok_v hx
      obtain ⟨b, o, n, rfl, h1, h2⟩ := ldI_some h
      exact fin (K' := K) (by rw [hev, hx]; simp only [loadA, aggT_not hq (by simp)]; exact h1) h2
    · rename_i p hp hq
      rw [hp] at hx
      obtain ⟨hx, _⟩ := TV.ok_v hx
      obtain ⟨b, o, n, rfl, h1, h2⟩ := ldB_some h
      exact fin (K' := K) (by rw [hev, hx]; simp only [loadA, aggT_not hq (by simp)]; exact h1) h2
    · rename_i p hp hq
      rw [hp] at hx
      obtain ⟨hx, _⟩ := TV.ok_v hx
      obtain ⟨b, o, n, rfl, h1, h3, h2⟩ := ldV_some h
      exact fin (K' := K) (by rw [hev, hx]; simp only [loadA, aggT_not hq (by simp)]; exact h1) h2
    · rename_i p m hp hq
      rw [hp] at hx
      obtain ⟨hx, _⟩ := TV.ok_v hx
      obtain ⟨b, o, n, rfl, h1, h2⟩ := ldG_some h
      obtain ⟨g1, g2⟩ := aggT_of hq
      exact fin (K' := K) (by rw [hev, hx]; simp only [loadA, g1, g2, h1]) h2
theorem envA_ok {l : List TV} {vs : List Value} (hl : l.length = vs.length) (h : ∀ (i : Nat) (x : TV) (u : Value), l[i]? = some x → vs[i]? = some u → (match x with | .i k n => u = .int k n | .b c => u = .bool c | .v w => u = w ∧ isAgg w = false | .a m => u = .agg m.toArray | _ => False)) (n : Nat) :
    OKE (envA l) (Fr.ev { n := n, tm := T.ofL .e 0 vs }) := by
  refine oke_of fun t => ?_
  simp only [envA, T.get_ofL]
  by_cases ht : t < l.length
  · have ht' : t < vs.length := by omega
    rw [if_pos (by omega), if_pos (by omega)]
    simp only [Nat.sub_zero]
    have h1 : l[t]? = some l[t] := by simp [ht]
    have h2 : vs[t]? = some vs[t] := by simp [ht']
    rw [h1, h2]
    exact ok_one (h t _ _ h1 h2)
  · rw [if_neg (by omega), if_neg (by omega)]
    simp [TV.OK]
/-- a function's typed form is right -/
theorem fun_ok {P : Program} {S : FuncId → Option Summary} {k : Nat} {f : FuncId} {fn : Func} {an : Ann} {rs : List Rep} {args : List Value} {σ : Heap} (hS : S f = none) (hf : P.funcs[f]? = some fn) (hok : funcOK fn = true) (hn : Nat.ble rs.length fn.ntmps = true)
    (h : appV rs (funT P (exec P S k) k fn an rs) args σ = some r) : exec P S (k + 1) (.fn f args.toArray) σ = some r := by
  have hlen := appV_len h
  obtain ⟨l, h1, h2, h3⟩ := appV_lamJ h
  split at h1 <;> try (cases h1; done)
  rename_i c hc
  have ho := envA_ok h2 h3 fn.ntmps
  obtain ⟨⟨e, st', σ'⟩, g1, ρ', g2, g3⟩ := codeT_ok (st := { fr := { n := fn.ntmps, tm := T.ofL .e 0 args }, df := 0 }) ho h1
  have hcond : (funcOK fn && Nat.ble args.toArray.size fn.ntmps) = true := by
    rw [hok]; simp only [List.size_toArray, Bool.true_and]; rw [hlen]; exact hn
  simp only [exec, hS, hf, hcond, cond_true, hc, g1]
  cases e with
  | normal =>
    obtain ⟨vs, e1, e2⟩ := resT_ok g2 g3
    simp only [e1]
    exact e2
  | ret =>
    obtain ⟨vs, e1, e2⟩ := resT_ok g2 g3
    simp only [e1]
    exact e2
  | exit i => cases g3
end
end Go.Idl

/- The ideal machine: summaries of functions that it doesn't walk. -/
namespace Go.Idl
open Go
noncomputable section

/-- may a function be entered? -/
def entered (P : Program) (g : FuncId) : Bool :=
  match P.funcs[g]? with
  | some fn => fn.body.isSome && fn.name != "runtime.NumGoroutine"
  | none => false
/-- `(*sync.Once).Do`: cell o is `done`, cell o + 1 the lock's state; the function is called at the first call, the lock held -/
def onceDo (P : Program) : Summary := fun R args σ =>
  match args.toList with
  | [Value.pointer (some ⟨b, o, none⟩), Value.func (.func g) first cap] =>
    match σ.load1 b o with
    | some (Value.int .u32 d) =>
      bif d == 0 then
        match σ.load1 b (o + 1) with
        | some (Value.int .i32 e) =>
          bif e == 0 && entered P g then
            match putL σ b (o + 1) [.int .i32 1] with
            | some σ1 =>
              match R (.fn g (first ++ cap)) σ1 with
              | some (_, σ2) =>
                match σ2.load1 b o, σ2.load1 b (o + 1) with
                | some (Value.int .u32 _), some (Value.int .i32 e) =>
                  bif e == 1 then
                    match putL σ2 b o [.int .u32 1] with
                    | some σ3 =>
                      match putL σ3 b (o + 1) [.int .i32 0] with
                      | some σ4 => some (undef, σ4)
                      | none => none
                    | none => none
                  else none
                | _, _ => none
              | none => none
            | none => none
          else none
        | _ => none
      else some (undef, σ)
    | _ => none
  | _ => none
section
variable {P : Program} {ι : Inj} {σ : Heap} {w : World}
theorem load1_row {b o : Nat} {v : Value} (h : σ.load1 b o = some v) : ∃ r, σ.row? b = some r ∧ o < r.size := by
  unfold Heap.load1 at h
  cases hr : σ.row? b with
  | none => rw [hr] at h; cases h
  | some r =>
    rw [hr] at h
    simp only at h
    cases hb : Nat.blt o r.size with
    | true => rw [nblt] at hb; exact ⟨r, rfl, by simpa using hb⟩
    | false => rw [hb] at h; cases h
theorem cell_of (h : Rel ι σ w) {b o : Nat} {k : IntKind} {n : Int} (hv : σ.load1 b o = some (.int k n)) {l : Loc} (hb : ι b = some l) : w.cell? ⟨l.blk, l.base + o, none⟩ = some (.int k n) := by
  obtain ⟨c, e, fr, h1, hlt, h2⟩ := load1_rel h hv hb
  rw [cell?_of h1]
  simp only [hlt, getElem?_pos]
  generalize c[l.base + o] = u at h2
  cases h2; rfl
theorem frozen_of (h : Rel ι σ w) {b o : Nat} {r : Row} (hr : σ.row? b = some r) (hro : r.ro = false) (ho : o < r.size) {l : Loc} (hb : ι b = some l) : w.frozen? ⟨l.blk, l.base + o, none⟩ = false := by
  obtain ⟨l', hl, _, hat⟩ := h.row (Heap.row?_eq hr)
  rw [hb] at hl; cases hl
  obtain ⟨c, e, fr, h1, h2, h3, h4, _⟩ := hat.out
  have hu := h2 hro
  unfold World.frozen?
  simp only [h1]
  rcases fr with ⟨lo, hi⟩
  unfold unfrozen at hu
  simp only at hu
  simp only [Bool.and_eq_false_iff, decide_eq_false_iff_not]
  omega
theorem putL_row {b o : Nat} {v : Value} {σ' : Heap} (h : putL σ b o [v] = some σ') : ∃ r, σ.row? b = some r ∧ r.ro = false ∧ o < r.size := by
  unfold putL at h
  simp only [List.isEmpty_cons, cond_false] at h
  unfold Heap.storeL at h
  cases hr : σ.row? b with
  | none => rw [hr] at h; cases h
  | some r =>
    rw [hr] at h
    simp only at h
    cases hro : r.ro with
    | true => rw [hro] at h; cases h
    | false =>
      rw [hro] at h
      simp only [cond_false] at h
      cases hc : (Nat.ble (o + [v].length) r.size && [v].all cellish) with
      | false => rw [hc] at h; cases h
      | true =>
        simp only [Bool.and_eq_true] at hc
        have := hc.1
        rw [nble] at this
        exact ⟨r, rfl, hro, by simpa [Nat.succ_le_iff] using this⟩
theorem load1_putL_ne {b o q : Nat} {v : Value} {σ' : Heap} (h : putL σ b o [v] = some σ') (hq : q ≠ o) : σ'.load1 b q = σ.load1 b q := by
  unfold putL at h
  simp only [List.isEmpty_cons, cond_false] at h
  unfold Heap.storeL at h
  cases hr : σ.row? b with
  | none => rw [hr] at h; cases h
  | some r =>
    rw [hr] at h
    simp only at h
    cases hro : r.ro with
    | true => rw [hro] at h; cases h
    | false =>
      rw [hro] at h
      simp only [cond_false] at h
      obtain ⟨_, h⟩ := bif_o h
      cases h
      unfold Heap.load1
      rw [hr]
      have : Heap.row? (((σ.kill r.par).kill r.kid).put b (.row { size := r.size, cells := T.ofL r.cells o [v], ro := false, par := none, kid := none })) b = some { size := r.size, cells := T.ofL r.cells o [v], ro := false, par := none, kid := none } := by
        unfold Heap.row?; rw [Heap.obj_put_same]
      rw [this]
      simp only [T.ofL, T.get_set, if_neg hq]
theorem putL_set (P : Program) (h : Rel ι σ w) {b o : Nat} {k q : IntKind} {n m : Int} {σ' : Heap} (hs : putL σ b o [.int k n] = some σ') {l : Loc} (hb : ι b = some l) (hc : w.cell? ⟨l.blk, l.base + o, none⟩ = some (.int q m)) :
    Rel ι σ' (w.setCell ⟨l.blk, l.base + o, none⟩ (.int k n)) ∧ Kept ι w ι (w.setCell ⟨l.blk, l.base + o, none⟩ (.int k n)) := by
  obtain ⟨r, hr, hro, ho⟩ := putL_row hs
  have hf := frozen_of h hr hro ho hb
  obtain ⟨w', h1, h2, h3⟩ := putL_sound (P := P) h hs (vs' := [.int k n]) ⟨rfl, fun i v v' g1 g2 => by
    rw [g1] at g2; cases g2
    cases i with
    | zero => cases g1; exact .int k n
    | succ i => simp at g1⟩ hb
  have hadd : (⟨l.blk, l.base + o, none⟩ : Addr).add 0 = ⟨l.blk, l.base + o, none⟩ := by simp [Addr.add]
  have hrun : (storeCells ⟨l.blk, l.base + o, none⟩ [.int k n]).run P w = .ok () (w.setCell ⟨l.blk, l.base + o, none⟩ (.int k n)) := by
    simp only [storeCells, hadd, Sem.run_bind, _root_.Go.run_store P w ⟨l.blk, l.base + o, none⟩ (.int k n) .plain rfl, hc, hf]
    rfl
  rw [hrun] at h1
  cases h1
  exact ⟨h2, h3⟩
end
/-- what is to be known of a function of the program: that it is `(*sync.Once).Do` -/
structure IsOnce (P : Program) (f : FuncId) : Prop where
  first : ∀ (b off : Nat) (g : FuncId) (first cap : Array Value) (f' : FuncId) (args' : Array Value) (K : Value → World → Prop) (w : World),
    w.cell? ⟨b, off, none⟩ = some (.int .u32 0) → w.cell? ⟨b, off + 1, none⟩ = some (.int .i32 0) → w.frozen? ⟨b, off, none⟩ = false → w.frozen? ⟨b, off + 1, none⟩ = false →
    (callFunc g (first ++ cap)).run P (w.setCell ⟨b, off + 1, none⟩ (.int .i32 1)) = .ok (.enter f' args') (w.setCell ⟨b, off + 1, none⟩ (.int .i32 1)) →
    (Calls P f' args' (w.setCell ⟨b, off + 1, none⟩ (.int .i32 1)) fun e w2 => ∃ v, e = .returned v ∧ K v w2) →
    (∀ v w2, K v w2 → (∃ d, w2.cell? ⟨b, off, none⟩ = some (.int .u32 d)) ∧ w2.cell? ⟨b, off + 1, none⟩ = some (.int .i32 1) ∧ w2.frozen? ⟨b, off, none⟩ = false ∧ w2.frozen? ⟨b, off + 1, none⟩ = false) →
    Calls P f #[.pointer (some ⟨b, off, none⟩), .func (.func g) first cap] w fun e w' => e = .returned (.tuple #[]) ∧
      ∃ v w2, K v w2 ∧ w' = (w2.drew.setCell ⟨b, off, none⟩ (.int .u32 1)).setCell ⟨b, off + 1, none⟩ (.int .i32 0)
  done : ∀ (a : Addr) (d : Int), ¬ d = 0 → ∀ (fv : Value) (w : World), w.cell? a = some (.int .u32 d) → Calls P f #[.pointer (some a), fv] w fun e w' => e = .returned (.tuple #[]) ∧ w' = w
  enters : entered P f = true
theorem entered_run {P : Program} {f : FuncId} (h : entered P f = true) (args : Array Value) (w : World) : (callFunc f args).run P w = .ok (.enter f args) w ∧ ∃ fn, P.funcs[f]? = some fn ∧ fn.body.isSome = true := by
  unfold entered at h
  split at h <;> try (cases h; done)
  rename_i fn hf
  simp only [Bool.and_eq_true] at h
  exact ⟨run_callFunc hf h.2 h.1, fn, hf, h.1⟩
theorem onceDo_ok {P : Program} {f : FuncId} (hO : IsOnce P f) : SummaryOK P f (onceDo P) := by
  intro R hR args σ v σ' h ι w hrel args' ha
  unfold onceDo at h
  split at h <;> try (cases h; done)
  rename_i b o g first cap hargs
  obtain rfl : args = #[.pointer (some ⟨b, o, none⟩), .func (.func g) first cap] := Array.toList_inj.1 (by simpa using hargs)
  -- the arguments
  obtain ⟨p', q', rfl⟩ : ∃ p' q', args' = #[p', q'] := by
    have hz : args'.toList.length = 2 := by have := ha.1; simpa using this.symm
    match hh : args'.toList with
    | [p, q] => exact ⟨p, q, Array.toList_inj.1 (by simpa using hh)⟩
    | [] => rw [hh] at hz; cases hz
    | [_] => rw [hh] at hz; cases hz
    | _ :: _ :: _ :: _ => rw [hh] at hz; simp at hz
  have hp := ha.2 0 _ _ rfl rfl
  have hq := ha.2 1 _ _ rfl rfl
  cases hp with
  | @ptr _ _ l hb =>
  cases hq with
  | @func _ fn' _ first' _ cap' hfn e1 e2 e3 e4 =>
  cases hfn with
  | func =>
  refine .inr (.inl ⟨f, _, w, (entered_run hO.enters _ _).1, fun n => callsIn_wide.2 ?_⟩)
  split at h <;> try (cases h; done)
  rename_i d hd
  have hcd := cell_of hrel hd hb
  cases hd0 : (d == 0) with
  | false =>
    rw [hd0] at h
    simp only [cond_false, Option.some.injEq, Prod.mk.injEq] at h
    obtain ⟨rfl, rfl⟩ := h
    refine (hO.done _ d (by simpa using hd0) _ w hcd).mono ?_
    rintro e w' ⟨rfl, rfl⟩
    exact ⟨_, rfl, ι, Kept.refl _ _, hrel, VRel.undef _⟩
  | true =>
    rw [hd0] at h
    simp only [cond_true] at h
    have hd0 : d = 0 := by simpa using hd0
    subst hd0
    split at h <;> try (cases h; done)
    rename_i x hx
    have hcx := cell_of hrel hx hb
    cases hc : (x == 0 && entered P g) with
    | false => rw [hc] at h; cases h
    | true =>
      rw [hc] at h
      simp only [cond_true] at h
      simp only [Bool.and_eq_true, beq_iff_eq] at hc
      obtain ⟨rfl, hent⟩ := hc
      split at h <;> try (cases h; done)
      rename_i σ1 h1
      split at h <;> try (cases h; done)
      rename_i v2 σ2 h2
      split at h <;> try (cases h; done)
      rename_i d2 x2 hd2 hx2
      cases hx21 : (x2 == 1) with
      | false => rw [hx21] at h; cases h
      | true =>
        rw [hx21] at h
        simp only [cond_true] at h
        have hx21 : x2 = 1 := by simpa using hx21
        subst hx21
        split at h <;> try (cases h; done)
        rename_i σ3 h3
        split at h <;> try (cases h; done)
        rename_i σ4 h4
        simp only [Option.some.injEq, Prod.mk.injEq] at h
        obtain ⟨rfl, rfl⟩ := h
        obtain ⟨r0, hr0, hro0, ho1⟩ := putL_row h1
        have ho0 : o < r0.size := by omega
        have f0 := frozen_of hrel hr0 hro0 ho0 hb
        have f1 := frozen_of hrel hr0 hro0 ho1 hb
        obtain ⟨g1, g2⟩ := putL_set P hrel h1 hb (by rw [← Nat.add_assoc] at *; exact hcx)
        have hcap : ARel ι (first ++ cap) (first' ++ cap') := arr_app ⟨e1, e2⟩ ⟨e3, e4⟩
        have hgo := hR (.fn g (first ++ cap)) σ1 v2 σ2 h2 ι _ g1 _ hcap
        have hrun := (entered_run hent (first' ++ cap') (w.setCell ⟨l.blk, l.base + (o + 1), none⟩ (.int .i32 1)))
        have hcalls : Calls P g (first' ++ cap') (w.setCell ⟨l.blk, l.base + (o + 1), none⟩ (.int .i32 1)) fun e w2 => ∃ v, e = .returned v ∧ After ι (w.setCell ⟨l.blk, l.base + (o + 1), none⟩ (.int .i32 1)) v2 σ2 v w2 := by
          obtain ⟨hr, fn, hfn, hbody⟩ := hrun
          rcases hgo with ⟨hno, _⟩ | ⟨f2, a2, w2, k1, k2⟩ | ⟨hno, _⟩
          · have := hno fn hfn; rw [this] at hbody; cases hbody
          · rw [hr] at k1; cases k1; exact callsIn_wide.1 (k2 0)
          · have := hno fn hfn; rw [this] at hbody; cases hbody
        have := hO.first l.blk (l.base + o) g first' cap' g (first' ++ cap') (fun v w2 => After ι (w.setCell ⟨l.blk, l.base + (o + 1), none⟩ (.int .i32 1)) v2 σ2 v w2) w hcd (by rw [Nat.add_assoc]; exact hcx) f0 (by rw [Nat.add_assoc]; exact f1)
          (by rw [Nat.add_assoc]; exact hrun.1) (by rw [Nat.add_assoc]; exact hcalls) ?_
        · refine this.mono ?_
          rintro e w' ⟨rfl, v', w2, ⟨ι2, k1, k2, k3⟩, rfl⟩
          have hb2 := k1.le _ _ hb
          have c1 := cell_of k2 hd2 hb2
          have rd : Rel ι2 σ2 w2.drew := k2.heap rfl
          obtain ⟨m1, m2⟩ := putL_set P rd h3 hb2 (by rw [World.cell?_drew]; exact c1)
          have hx3 : σ3.load1 b (o + 1) = some (.int .i32 1) := by
            rw [← hx2]; exact load1_putL_ne h3 (by omega)
          obtain ⟨m3, m4⟩ := putL_set P m1 h4 hb2 (cell_of m1 hx3 hb2)
          refine ⟨_, rfl, ι2, ?_, by rw [Nat.add_assoc]; exact m3, VRel.undef _⟩
          rw [Nat.add_assoc]
          exact (g2.trans k1).trans ((Kept.drew _).trans (m2.trans m4))
        · rintro v' w2 ⟨ι2, k1, k2, k3⟩
          have hb2 := k1.le _ _ hb
          obtain ⟨r2, hr2, hro2, ho2⟩ := putL_row h3
          obtain ⟨r2', hr2', ho2'⟩ := load1_row hx2
          rw [hr2] at hr2'; cases hr2'
          refine ⟨⟨d2, cell_of k2 hd2 hb2⟩, by rw [Nat.add_assoc]; exact cell_of k2 hx2 hb2, frozen_of k2 hr2 hro2 ho2 hb2, by rw [Nat.add_assoc]; exact frozen_of k2 hr2 hro2 ho2' hb2⟩
end
end Go.Idl

/- The typed machine, part i: a run by a table of typed forms. -/
namespace Go.Idl
open Go
noncomputable section
variable {r : Value × Heap}

/-- one machine does all that another does -/
def Le (R R' : Callee) : Prop := ∀ t σ x, R t σ = some x → R' t σ = some x
theorem Le.refl (R : Callee) : Le R R := fun _ _ _ h => h
theorem Le.trans {R R' R'' : Callee} (h : Le R R') (h' : Le R' R'') : Le R R'' := fun t σ x hx => h' t σ x (h t σ x hx)
theorem stepD_mono {P : Program} {R R' : Callee} (hR : Le R R') {e : Env} {σ : Heap} {o : Oper} {x : Value × Heap} (h : stepD P R e σ o = some x) : stepD P R' e σ o = some x := by
  unfold stepD at h ⊢
  split at h
  · rename_i hc; (try simp only [hc]); exact h
  · rename_i hc; (try simp only [hc]); exact h
  · rename_i hc; (try simp only [hc]); exact h
  · rename_i hc; (try simp only [hc]); exact h
  · rename_i hc; (try simp only [hc])
    split at h
    · rename_i t ht; (try simp only [ht]); exact hR _ _ _ h
    · cases h
  · cases h
theorem regSeq_mono {P : Program} {R R' : Callee} (hR : Le R R') {ops : Array Oper} : ∀ {l : List Oper} {a : Fr} {σ : Heap} {x : Fr × Heap}, regSeq P R ops l a σ = some x → regSeq P R' ops l a σ = some x
  | [], a, σ, x, h => h
  | o :: l, a, σ, x, h => by
    simp only [regSeq] at h ⊢
    cases hw : wantedA ops a o with
    | true =>
      rw [hw] at h
      simp only [cond_true] at h ⊢
      split at h <;> try (cases h; done)
      rename_i v σ' hv
      rw [stepD_mono hR hv]
      exact regSeq_mono hR h
    | false =>
      rw [hw] at h
      simp only [cond_false] at h ⊢
      exact regSeq_mono hR h
theorem stagesD_mono {P : Program} {R R' : Callee} (hR : Le R R') {ops : Array Oper} {ms : List Nat} {base : Nat} {tail : List Nat} : ∀ {st : List (List Nat × Nat)} {a : Fr} {σ : Heap} {hs : List Heap} {x : Fr × Heap},
    stagesD P R ops ms base st tail a σ hs = some x → stagesD P R' ops ms base st tail a σ hs = some x
  | [], a, σ, hs, x, h => h
  | (need, s) :: rest, a, σ, hs, x, h => by
    simp only [stagesD] at h ⊢
    split at h <;> try (cases h; done)
    rename_i a' obs ho
    try simp only [ho]
    split at h <;> try (cases h; done)
    rename_i o hs'
    try simp only [hs']
    cases hw : wantedA ops a' o with
    | true =>
      rw [hw] at h
      simp only [cond_true] at h ⊢
      split at h <;> try (cases h; done)
      rename_i v σ' hv
      rw [stepD_mono hR hv]
      exact stagesD_mono hR h
    | false =>
      rw [hw] at h
      simp only [cond_false] at h ⊢
      exact stagesD_mono hR h
theorem loopD_mono {b b' : St → Heap → Res} (hb : ∀ st σ x, b st σ = some x → b' st σ = some x) : ∀ {n m : Nat} {st : St} {σ : Heap} {x : AExit × St × Heap}, n ≤ m → loopD b n st σ = some x → loopD b' m st σ = some x
  | 0, m, st, σ, x, hn, h => by cases h
  | n + 1, 0, st, σ, x, hn, h => by omega
  | n + 1, m + 1, st, σ, x, hn, h => by
    simp only [loopD] at h ⊢
    cases hh : b st σ with
    | none => rw [hh] at h; cases h
    | some z =>
      rw [hh] at h
      rw [hb _ _ _ hh]
      obtain ⟨e, st', σ'⟩ := z
      cases e with
      | normal => exact loopD_mono hb (by omega) h
      | exit i => exact h
      | ret => exact h
theorem codeD_mono {P : Program} {L L' : Nat} {R R' : Callee} (hL : L ≤ L') (hR : Le R R') {q : Bool} : ∀ {c : Code} {st : St} {σ : Heap} {x : AExit × St × Heap}, codeD P L R q c st σ = some x → codeD P L' R' q c st σ = some x := by
  intro c
  induction c with
  | region id ops draw =>
    intro st σ x h
    cases draw with
    | true =>
      simp only [codeD, cond_true] at h ⊢
      split at h <;> try (cases h; done)
      rename_i a σ' ha
      have : regDraw P R' ops st.fr σ = some (a, σ') := by
        unfold regDraw at ha ⊢
        obtain ⟨h1, h2⟩ := bif_o ha
        simp only [h1, cond_true]
        exact stagesD_mono hR h2
      rw [this]; exact h
    | false =>
      simp only [codeD, cond_false] at h ⊢
      split at h <;> try (cases h; done)
      rename_i a σ' ha
      rw [regSeq_mono hR ha]; exact h
  | seq x y ihx ihy =>
    intro st σ z h
    simp only [codeD] at h ⊢
    cases hh : codeD P L R q x st σ with
    | none => rw [hh] at h; cases h
    | some w =>
      rw [hh] at h
      rw [ihx hh]
      obtain ⟨e, st', σ'⟩ := w
      cases e with
      | normal => exact ihy h
      | exit i => exact h
      | ret => exact h
  | cond c x y ihx ihy =>
    intro st σ z h
    simp only [codeD] at h ⊢
    split at h <;> try (cases h; done)
    rename_i b hb
    cases b with
    | true => exact ihx h
    | false => exact ihy h
  | block id x ih =>
    intro st σ z h
    simp only [codeD] at h ⊢
    cases hh : codeD P L R q x st σ with
    | none => rw [hh] at h; cases h
    | some w => rw [hh] at h; rw [ih hh]; exact h
  | loop x ih =>
    intro st σ z h
    simp only [codeD] at h ⊢
    exact loopD_mono (fun st σ x hx => ih hx) hL h
  | scope x ih => intro st σ z h; simp only [codeD] at h ⊢; exact ih h
  | rangeFunc f ps x y ihx ihy =>
    intro st σ z h
    cases q with
    | true => cases h
    | false =>
      simp only [codeD, cond_false] at h ⊢
      split at h <;> try (cases h; done)
      rename_i g first cap hf
      try simp only [hf]
      split at h <;> try (cases h; done)
      rename_i v σ' hv
      rw [hR _ _ _ hv]
      exact h
  | _ => intro st σ z h; exact h
/-- the machine's step -/
def xstep (P : Program) (S : FuncId → Option Summary) (L : Nat) (R : Callee) : Callee := fun t σ =>
  match t with
  | .fn f args =>
    match S f with
    | some s => s R args σ
    | none =>
      match P.funcs[f]? with
      | none => none
      | some fn =>
        bif funcOK fn && Nat.ble args.size fn.ntmps then
          match fn.body with
          | none => none
          | some c =>
            match codeD P L R false c { fr := { n := fn.ntmps, tm := T.ofL .e 0 args.toList }, df := 0 } σ with
            | some (.normal, st, σ') | some (.ret, st, σ') =>
              match resultsA P st.fr σ' fn.results.toList with
              | some vs => some (packR vs, σ')
              | none => none
            | _ => none
        else none
  | .round l args =>
    match loopOf σ l with
    | none => none
    | some a =>
      bif Nat.beq args.size a.params.size && allA a.params (fun t => Nat.blt t a.n) && codeOK a.n a.assign && codeOK a.n a.body then
        match codeD P L R true a.assign { fr := { n := a.n, tm := setTmps a.tm a.params.toList args.toList }, df := 0 } σ with
        | some (.normal, st, σ1) =>
          match loopOf σ1 l with
          | none => none
          | some a1 =>
            match a1.state with
            | .ready =>
              match codeD P L R true a.body st (σ1.put l (.loop { a1 with state := .busy })) with
              | some (e, _, σ2) =>
                match loopOf σ2 l with
                | none => none
                | some a2 =>
                  match e with
                  | .normal => some (.bool true, σ2.put l (.loop { a2 with state := .ready, pending := none }))
                  | e => some (.bool false, σ2.put l (.loop { a2 with state := .done, pending := codeOf e }))
              | none => none
            | _ => none
        | _ => none
      else none
theorem exec_succ (P : Program) (S : FuncId → Option Summary) (k : Nat) : exec P S (k + 1) = xstep P S k (exec P S k) := by
  funext t σ
  cases t <;> rfl
/-- summaries that tell more where more is told to them -/
def SMono (S : FuncId → Option Summary) : Prop := ∀ f s, S f = some s → ∀ R R', Le R R' → ∀ args σ x, s R args σ = some x → s R' args σ = some x
theorem xstep_mono {P : Program} {S : FuncId → Option Summary} (hS : SMono S) {L L' : Nat} {R R' : Callee} (hL : L ≤ L') (hR : Le R R') : Le (xstep P S L R) (xstep P S L' R') := by
  intro t σ x h
  cases t with
  | fn f args =>
    simp only [xstep] at h ⊢
    cases hs : S f with
    | some s => rw [hs] at h; exact hS f s hs R R' hR args σ x h
    | none =>
      rw [hs] at h
      simp only at h ⊢
      split at h <;> try (cases h; done)
      rename_i fn hf
      obtain ⟨h1, h2⟩ := bif_o h
      simp only [h1, cond_true]
      split at h2 <;> try (cases h2; done)
      rename_i c hc
      try simp only
      cases hd : codeD P L R false c { fr := { n := fn.ntmps, tm := T.ofL .e 0 args.toList }, df := 0 } σ with
      | none => rw [hd] at h2; cases h2
      | some z => rw [hd] at h2; rw [codeD_mono hL hR hd]; exact h2
  | round l args =>
    simp only [xstep] at h ⊢
    split at h <;> try (cases h; done)
    rename_i a ha
    try simp only
    obtain ⟨h1, h2⟩ := bif_o h
    simp only [h1, cond_true]
    cases hd : codeD P L R true a.assign { fr := { n := a.n, tm := setTmps a.tm a.params.toList args.toList }, df := 0 } σ with
    | none => rw [hd] at h2; cases h2
    | some z =>
      rw [hd] at h2
      rw [codeD_mono hL hR hd]
      obtain ⟨e, st, σ1⟩ := z
      cases e <;> try (cases h2; done)
      simp only at h2 ⊢
      split at h2 <;> try (cases h2; done)
      rename_i a1 ha1
      try simp only
      split at h2 <;> try (cases h2; done)
      rename_i hst
      try simp only
      cases hd2 : codeD P L R true a.body st (σ1.put l (.loop { a1 with state := .busy })) with
      | none => rw [hd2] at h2; cases h2
      | some w => rw [hd2] at h2; rw [codeD_mono hL hR hd2]; exact h2
theorem exec_mono1 {P : Program} {S : FuncId → Option Summary} (hS : SMono S) : ∀ k, Le (exec P S k) (exec P S (k + 1))
  | 0 => fun t σ x h => by cases t <;> cases h
  | k + 1 => by rw [exec_succ P S k, exec_succ P S (k + 1)]; exact xstep_mono hS (Nat.le_succ k) (exec_mono1 hS k)
theorem exec_mono {P : Program} {S : FuncId → Option Summary} (hS : SMono S) {k m : Nat} (h : k ≤ m) : Le (exec P S k) (exec P S m) := by
  induction h with
  | refl => exact Le.refl _
  | step h ih => exact ih.trans (exec_mono1 hS _)

/-! ### a run by a table -/
abbrev Form := Callee → Nat → List Value → Heap → Ans
def FormOK (P : Program) (S : FuncId → Option Summary) (f : FuncId) (g : Form) : Prop :=
  ∀ (R : Callee) (L : Nat) (args : List Value) (σ : Heap) (x : Value × Heap), g R L args σ = some x → xstep P S L R (.fn f args.toArray) σ = some x
theorem form_ok {P : Program} {S : FuncId → Option Summary} {f : FuncId} {fn : Func} {an : Ann} {rs : List Rep} {G : Callee → Nat → JT rs} (hG : ∀ R L, funT P R L fn an rs = G R L) (hS : S f = none) (hf : P.funcs[f]? = some fn)
    (hok : (funcOK fn && Nat.ble rs.length fn.ntmps) = true) : FormOK P S f fun R L args σ => appV rs (G R L) args σ := by
  intro R L args σ x h
  simp only [← hG] at h
  simp only [Bool.and_eq_true] at hok
  have hlen := appV_len h
  obtain ⟨l, h1, h2, h3⟩ := appV_lamJ h
  split at h1 <;> try (cases h1; done)
  rename_i c hc
  have ho := envA_ok h2 h3 fn.ntmps
  obtain ⟨⟨e, st', σ'⟩, g1, ρ', g2, g3⟩ := codeT_ok (st := { fr := { n := fn.ntmps, tm := T.ofL .e 0 args }, df := 0 }) ho h1
  have hcond : (funcOK fn && Nat.ble args.toArray.size fn.ntmps) = true := by
    rw [hok.1]; simp only [List.size_toArray, Bool.true_and]; rw [hlen]; exact hok.2
  simp only [xstep, hS, hf, hcond, cond_true, hc, g1]
  cases e with
  | normal =>
    obtain ⟨vs, e1, e2⟩ := resT_ok g2 g3
    simp only [e1]
    exact e2
  | ret =>
    obtain ⟨vs, e1, e2⟩ := resT_ok g2 g3
    simp only [e1]
    exact e2
  | exit i => cases g3
theorem form_sum {P : Program} {S : FuncId → Option Summary} {f : FuncId} {s : Summary} (hS : S f = some s) : FormOK P S f fun R _ args σ => s R args.toArray σ := by
  intro R L args σ x h
  simp only [xstep, hS]; exact h
def runT (P : Program) (S : FuncId → Option Summary) (tbl : T Form) (n : Nat) : Callee :=
  Nat.rec (motive := fun _ => Callee) (fun _ _ => none) (fun k self t σ =>
    match t with
    | .fn f args =>
      match tbl.get f with
      | some g => g self k args.toList σ
      | none => xstep P S k self (.fn f args) σ
    | .round l args => xstep P S k self (.round l args) σ) n
theorem runT_ok {P : Program} {S : FuncId → Option Summary} (hS : SMono S) {tbl : T Form} (ht : ∀ f g, tbl.get f = some g → FormOK P S f g) : ∀ n, Le (runT P S tbl n) (exec P S n)
  | 0 => fun t σ x h => by cases h
  | n + 1 => by
    intro t σ x h
    rw [exec_succ]
    have ih := runT_ok hS ht n
    refine xstep_mono hS (Nat.le_refl n) ih t σ x ?_
    cases t with
    | fn f args =>
      have h' : (match tbl.get f with | some g => g (runT P S tbl n) n args.toList σ | none => xstep P S n (runT P S tbl n) (.fn f args) σ) = some x := h
      split at h'
      · rename_i g hg
        have := ht f g hg _ _ _ _ _ h'
        simpa using this
      · exact h'
    | round l args => exact h
def TOK (P : Program) (S : FuncId → Option Summary) : T Form → (Nat → Nat) → Prop
  | .e, _ => True
  | .n l v r, d => TOK P S l (fun i => d (2 * i + 1)) ∧ (match v with | some g => FormOK P S (d 0) g | none => True) ∧ TOK P S r (fun i => d (2 * i + 2))
theorem TOK.get {P : Program} {S : FuncId → Option Summary} : ∀ {t : T Form} {d : Nat → Nat} {i : Nat} {g : Form}, TOK P S t d → t.get i = some g → FormOK P S (d i) g
  | .e, d, i, g, _, h => by simp at h
  | .n l v r, d, i, g, ht, h => by
    obtain ⟨h1, h2, h3⟩ := ht
    rw [T.get_n] at h
    split at h
    · rename_i hi; subst hi
      rw [h] at h2; exact h2
    · rename_i hi
      split at h
      · rename_i ho
        have := TOK.get h1 h
        try simp only at this
        rw [show 2 * (i / 2) + 1 = i by omega] at this; exact this
      · rename_i ho
        have := TOK.get h3 h
        try simp only at this
        rw [show 2 * ((i - 1) / 2) + 2 = i by omega] at this; exact this
def told : Ans → Bool
  | some (.bool true, _) => true
  | _ => false
theorem told_of {x : Ans} (h : told x = true) : ∃ σ, x = some (.bool true, σ) := by
  unfold told at h
  split at h
  · exact ⟨_, rfl⟩
  · cases h
end
end Go.Idl

/- The typed machine, part j: what a law needs. -/
namespace Go.Idl
open Go Go.RowKit
noncomputable section

theorem onceDo_mono {P : Program} {R R' : Callee} (hR : Le R R') {args : Array Value} {σ : Heap} {x : Value × Heap} (h : onceDo P R args σ = some x) : onceDo P R' args σ = some x := by
  unfold onceDo at h ⊢
  split at h <;> try (cases h; done)
  rename_i b o g first cap hargs
  try simp only [hargs]
  split at h <;> try (cases h; done)
  rename_i d hd
  try simp only [hd]
  cases h0 : (d == 0) with
  | false => rw [h0] at h; exact h
  | true =>
    rw [h0] at h
    simp only [cond_true] at h ⊢
    split at h <;> try (cases h; done)
    rename_i e he
    try simp only [he]
    cases h1 : (e == 0 && entered P g) with
    | false => rw [h1] at h; cases h
    | true =>
      rw [h1] at h
      simp only [cond_true] at h ⊢
      split at h <;> try (cases h; done)
      rename_i σ1 hs1
      try simp only [hs1]
      split at h <;> try (cases h; done)
      rename_i v σ2 hs2
      simp only [hR _ _ _ hs2]
      exact h
theorem sum_one {P : Program} {f : FuncId} {s : Summary} (hs : SummaryOK P f s) : ∀ g t, (bif Nat.beq g f then some s else none) = some t → SummaryOK P g t := by
  intro g t h
  obtain ⟨h1, h2⟩ := bif_o h
  cases h2
  have : g = f := by simpa using h1
  subst this; exact hs
theorem mono_one {P : Program} {f : FuncId} : SMono fun g => bif Nat.beq g f then some (onceDo P) else none := by
  intro g s h R R' hR args σ x hx
  obtain ⟨h1, h2⟩ := bif_o h
  cases h2
  exact onceDo_mono hR hx
/-- a law that is told by a run is true -/
theorem law_run {P : Program} (hm : P.follows .mixedOrders = true) {S : FuncId → Option Summary} (hS : ∀ f s, S f = some s → SummaryOK P f s) (hM : SMono S) {tbl : T Form} (ht : TOK P S tbl id) {n : Nat} {f : FuncId} {fn : Func} (hf : P.funcs[f]? = some fn)
    (hn : (fn.name != "runtime.NumGoroutine") = true) (hb : fn.body.isSome = true) {args args' : Array Value} {σ : Heap} {ι : Inj} {w : World} (h : told (runT P S tbl n (.fn f args) σ) = true)
    (hrel : Rel ι σ w) (ha : ARel ι args args') (hro : ∀ b l, ι b = some l → l.ro = true) :
    Calls P f args' w fun e w' => e = .returned (.bool true) ∧ Below w.heap.size w w' := by
  obtain ⟨σ', h1⟩ := told_of h
  exact law_calls hm hS hf hn hb (runT_ok hM (fun g s hg => ht.get hg) n _ _ _ h1) hrel ha hro

/-! ### arguments that are only named -/
theorem has_lt {P : Program} {w : World} {base n : Nat} {q : Reach} {a : Addr} {e : TypeId} (h : w.has P q base a e n) : a.spot = none ∧ a.block < w.heap.size := by
  obtain ⟨_, h1, row, cells, h2, _⟩ := h
  refine ⟨h1, ?_⟩
  unfold World.shape? at h2
  cases hh : w.heap[a.block]? with
  | none => rw [hh] at h2; cases h2
  | some o => exact (Array.getElem?_eq_some_iff.1 hh).1
def nameA (a : Option Addr) : Option Addr := a.map fun x => ⟨0, x.off, none⟩
def nameI (a : Option Addr) : Inj := { map := fun b => bif Nat.beq b 0 then a.map fun x => ⟨x.block, 0, 0, true⟩ else none, top := 1 }
theorem nameI_ro (a : Option Addr) : ∀ b l, nameI a b = some l → l.ro = true := by
  intro b l h
  obtain ⟨_, h⟩ := bif_o (α := Loc) (show (bif Nat.beq b 0 then a.map fun x => (⟨x.block, 0, 0, true⟩ : Loc) else none) = some l from h)
  cases a with
  | none => cases h
  | some x => cases h; rfl
theorem name_rel {P : Program} {w : World} {base : Nat} {t e : TypeId} {a : Option Addr} {len cap : Nat} (ht : P.underlying t = some (.slice e)) (h : Value.okWide P w .any base t (.slice a len cap)) :
    Rel (nameI a) (bare 1) w ∧ VRel (nameI a) (.slice (nameA a) len cap) (.slice a len cap) := by
  simp only [Value.okWide, ht, Cell.okWide] at h
  cases a with
  | none =>
    refine ⟨rel_bare rfl (fun b l hb => ?_), .nilslice len cap⟩
    obtain ⟨_, hb⟩ := bif_o (α := Loc) (show (bif Nat.beq b 0 then (none : Option Loc) else none) = some l from hb)
    cases hb
  | some x =>
    simp only [Cell.ok, ht] at h
    obtain ⟨h1, h2⟩ := has_lt h.2.2
    refine ⟨rel_bare rfl (fun b l hb => ?_), ?_⟩
    · obtain ⟨hb0, hb⟩ := bif_o (α := Loc) (show (bif Nat.beq b 0 then some (⟨x.block, 0, 0, true⟩ : Loc) else none) = some l from hb)
      cases hb
      have : b = 0 := by simpa using hb0
      subst this
      exact ⟨by decide, h2⟩
    · obtain ⟨blk, off, spot⟩ := x
      simp only at h1
      subst h1
      have := VRel.slice (ι := nameI (some ⟨blk, off, none⟩)) (b := 0) (o := off) (l := ⟨blk, 0, 0, true⟩) len cap rfl
      simpa [nameA] using this
end
end Go.Idl
