/- An ideal machine of our own, and that it is right: part 4 of 5. -/
import Derived.Below
import Derived.Test.YtpddlhbhpncfaaaGreatIa3
set_option linter.unusedVariables false
set_option linter.unusedSimpArgs false
/- The ideal machine, part Z: regions that draw their order: writes and calls; the whole region. -/
namespace Go.Idl
open Go
noncomputable section

section
variable {P : Program} {R : Callee} {ops : Array Oper} {ms : List Nat} {a0 : T Value} {n0 base : Nat} {ι0 : Inj} {w0 : World} {df : List Deferred} {a1 : Fr} {σ1 : Heap}
  {tail : List Nat} {a : Fr} {σ : Heap} {hs : List Heap} {d : Nat} {D : Nat → Prop} {ι : Inj} {A : Act} {w : World}
theorem Inv.next {need : List Nat} {s : Nat} {rest : List (List Nat × Nat)} (I : Inv P R ops ms a0 n0 base ι0 w0 df a1 σ1 ((need, s) :: rest) tail a σ hs d D ι A w)
    (hnd : ¬ D s) (hsub : ∀ j, (ms.getD s 0).testBit j = true → D j) {o : Oper} {a' : Fr} {obs : List (Nat × AObj)} {v : Value} {σ' : Heap} {d' : Nat} (ho : ops[s]? = some o) (hlt : ∀ x, o.dst = some x → x < A.tmps.size)
    (hp : preD P ops ms base hs need a = some (a', obs)) (hk1 : okNeed P ops ms (ms.getD s 0) need d = some d')
    (hst : (wantedA ops a' o = true ∧ stepD P R a'.ev (puts base obs σ) o = some (v, σ')) ∨ (wantedA ops a' o = false ∧ v = undef ∧ σ' = puts base obs σ))
    (hr : stagesD P R ops ms base rest tail (a'.put o.dst v) σ' (hs ++ [σ']) = some (a1, σ1)) (hk2 : okStages P ops ms rest tail (d' ||| 2 ^ s) = true) (hsp : spine P o = true)
    (f2 : FrInv ops a0 a1.tm (bits (d' ||| 2 ^ s)) (a'.put o.dst v).tm) (c2 : Closed ms (bits (d' ||| 2 ^ s))) (hdst : ∀ x, o.dst = some x → a1.tm.get x = some v)
    {ιt : Inj} (sm : ι.sim ιt) (tt : ιt.top = ι.top)
    (bk : ∀ c l, ιt c = some l → (ι c = some l ∧ ∀ x ∈ obs, c ≠ base + x.1) ∨ (l.ro = false ∧ (∃ x ∈ obs, c = base + x.1) ∧ ∃ l0, ι c = some l0 ∧ l0.blk = l.blk))
    (same : ∀ c, (∀ x ∈ obs, c ≠ base + x.1) → ιt c = ι c)
    {ι' : Inj} {w' : World} {v' : Value} (k : Kept ιt w ι' w') (hrel : Rel ι' σ' w') (hv : VRel ι' v v') :
    Inv P R ops ms a0 n0 base ι0 w0 df a1 σ1 rest tail (a'.put o.dst v) σ' (hs ++ [σ']) (d' ||| 2 ^ s) (fun j => D j ∨ j = s) ι' (A.put o.dst v') w' := by
  have hb := okNeed_bits hk1
  have hmem := okNeed_mem hk1
  have hkeys := preD_keys hp
  have sm' : ι.sim ι' := sm.trans k.le.sim
  obtain ⟨t1, t2⟩ := tms_put (a0 := a0) ho hlt hdst hv (fun t ht => (I.tmD t ht).sim sm') (fun t ht => (I.tm0 t ht).sim sm')
  have hneedD : ∀ j ∈ need, D j := fun j hj => hsub j (hmem j hj).2.2
  have hpend : ∀ x ∈ obs, ∃ B z, ι (base + x.1) = some ⟨B, 0, z, true⟩ ∧ w0.heap.size ≤ B := by
    intro x hx
    obtain ⟨B, z, h1, h2, _⟩ := I.pend x.1 x.2 (hneedD _ (hkeys x hx)) (hmem _ (hkeys x hx)).2.1 ((Fut.cons hp ho hst).2 (.inl hx))
    exact ⟨B, z, h1, h2⟩
  have hds : ¬ bits d s := fun h => hnd (I.sub s h)
  have hnew : ∀ {j}, D j → ¬ bits d j → j ∉ need → ¬ bits (d' ||| 2 ^ s) j := by
    intro j h1 h2 h3 h4
    rcases bits_or.1 h4 with h4 | rfl
    · rcases (hb j).1 h4 with h4 | h4
      · exact h2 h4
      · exact h3 h4
    · exact hnd h1
  have hcount : spinesDone P ops (d' ||| 2 ^ s) = spinesDone P ops d + 1 := by
    have hss : isSpine P ops s = true := by simp only [isSpine, ho]; exact hsp
    refine countIdx_upd (i := s) _ (lt_of_get ho) ?_ ?_ fun j hj hjs => ?_
    · have : d.testBit s = false := by simpa [bits] using hds
      simp only [this, Bool.false_and]
    · have : (d' ||| 2 ^ s).testBit s = true := bits_or.2 (.inr rfl)
      simp only [this, hss, Bool.and_self]
    · cases hsj : isSpine P ops j with
      | false => simp
      | true =>
        simp only [Bool.and_true]
        rw [Bool.eq_iff_iff]
        refine (bits_or (d := d') (i := s) (j := j)).trans ⟨fun h => ?_, fun h => .inl ((hb j).2 (.inl h))⟩
        rcases (hb j).1 (h.resolve_right hjs) with h | h
        · exact h
        · obtain ⟨q, hq, hq2⟩ := (hmem j h).1
          simp only [isSpine, hq] at hsj
          rw [hq2] at hsj; cases hsj
  exact {
    ok := hk2
    run := hr
    frd := f2
    cld := c2
    an := by rw [Fr.n_put, preD_n _ _ _ _ hp]; exact I.an
    sub := fun j hj => by
      rcases bits_or.1 hj with hj | rfl
      · rcases (hb j).1 hj with hj | hj
        · exact .inl (I.sub j hj)
        · exact .inl (hneedD j hj)
      · exact .inr rfl
    early := fun j q hj hq hq2 => by
      rcases hj with hj | rfl
      · exact bits_or.2 (.inl ((hb j).2 (.inl (I.early j q hj hq hq2))))
      · exact bits_or.2 (.inr rfl)
    clD := fun x j hx hj => by
      rcases hx with hx | rfl
      · exact .inl (I.clD x j hx hj)
      · exact .inl (hsub j hj)
    last := by rw [hcount, ← I.len]; simp
    len := by rw [hcount, List.length_append, I.len]; rfl
    tmD := t1
    tm0 := t2
    size := by rw [put_size]; exact I.size
    df := by rw [put_defers]; exact I.df
    rel := hrel
    le := fun b l hb' => by
      have hlow := I.low b l hb'
      exact k.le b l (by rw [same b fun x hx => by omega]; exact I.le b l hb')
    wsize := Nat.le_trans I.wsize k.size
    old := fun B hB hu => by
      obtain ⟨h1, h2⟩ := I.old B hB hu
      have hut : Unm ιt B := by
        intro b l hb' hro
        rcases bk b l hb' with ⟨g1, _⟩ | ⟨_, ⟨x, hx, rfl⟩, l0, g3, g4⟩
        · exact h2 b l g1 hro
        · obtain ⟨B', z, e1, e2⟩ := hpend x hx
          rw [g3] at e1; cases e1
          simp only at g4
          omega
      obtain ⟨h3, h4⟩ := k.old B (Nat.lt_of_lt_of_le hB I.wsize) hut
      exact ⟨h3.trans h1, h4⟩
    os := k.os.trans I.os
    output := k.output.trans I.output
    tape := k.tape.trans I.tape
    top0 := I.top0
    low := I.low
    top := by have := k.more.1; have := I.top; omega
    res := fun j hj hn => by
      cases hx : ι' (base + j) with
      | none => rfl
      | some l =>
        have hnone := I.res j hj fun h => hn (.inl h)
        rcases k.more.2 _ _ hx with h | ⟨h, _⟩
        · rcases bk _ _ h with ⟨g1, _⟩ | ⟨_, _, l0, g3, _⟩
          · rw [hnone] at g1; cases g1
          · rw [hnone] at g3; cases g3
        · have := I.top; omega
    more := fun b l hb' => by
      rcases k.more.2 _ _ hb' with h | ⟨h, h'⟩
      · rcases bk _ _ h with ⟨g1, g2⟩ | ⟨g1, ⟨x, hx, rfl⟩, _⟩
        · refine (I.more b l g1).imp id fun ⟨q1, q2⟩ => ⟨q1, q2.imp id ?_⟩
          rintro ⟨j, ob, rfl, e2, e3, e4⟩
          rcases (Fut.cons hp ho hst).1 e4 with e4 | ⟨e4, e5⟩
          · exact (g2 _ e4 rfl).elim
          · exact ⟨j, ob, rfl, .inl e2, hnew e2 e3 e4, e5⟩
        · exact .inr ⟨by omega, .inl g1⟩
      · have := I.top
        exact .inr ⟨by omega, .inl h'⟩
    pend := fun j ob hj hn hfu => by
      have hjs : j ≠ s := fun h => hn (bits_or.2 (.inr h))
      have hDj : D j := hj.resolve_right hjs
      have hnd' : ¬ bits d' j := fun h => hn (bits_or.2 (.inl h))
      have hjd : ¬ bits d j := fun h => hnd' ((hb j).2 (.inl h))
      have hjn : j ∉ need := fun h => hnd' ((hb j).2 (.inr h))
      obtain ⟨B, z, h1, h2, h3, h4, h5⟩ := I.pend j ob hDj hjd ((Fut.cons hp ho hst).2 (.inr ⟨hjn, hfu⟩))
      have hjo : ∀ x ∈ obs, base + j ≠ base + x.1 := fun x hx hh => hjn (by have : j = x.1 := by omega
                                                                            rw [this]; exact hkeys x hx)
      have hut : Unm ιt B := by
        intro c l hc hro hbl
        rcases bk c l hc with ⟨g1, _⟩ | ⟨_, ⟨x, hx, hcx⟩, l0, g3, g4⟩
        · have := h4 c l g1 hbl
          subst this
          rw [h1] at g1; cases g1; cases hro
        · have := h4 c l0 g3 (g4.trans hbl)
          exact hjo x hx (this.symm.trans hcx)
      obtain ⟨g1, g2⟩ := k.old B h3 hut
      refine ⟨B, z, k.le _ _ (by rw [same _ hjo]; exact h1), h2, Nat.lt_of_lt_of_le h3 k.size, fun c m hc hm => ?_, (h5.sim sm).mono k.le g1⟩
      cases hro : m.ro with
      | false => exact (g2 c m hc hro hm).elim
      | true =>
        rcases k.more.2 c m hc with h | ⟨_, h⟩
        · rcases bk c m h with ⟨q1, _⟩ | ⟨q1, _⟩
          · exact h4 c m q1 hm
          · rw [hro] at q1; cases q1
        · rw [hro] at h; cases h }
end
end
end Go.Idl

/- The ideal machine, part Za: regions that draw their order: the whole region. -/
namespace Go.Idl
open Go
noncomputable section

section
variable {P : Program} {R : Callee} {ops : Array Oper} {ms : List Nat} {a0 : T Value} {n0 base : Nat} {ι0 : Inj} {w0 : World} {df : List Deferred} {a1 : Fr} {σ1 : Heap}
  {st : List (List Nat × Nat)} {tail : List Nat} {a : Fr} {σ : Heap} {hs : List Heap} {d : Nat} {D : Nat → Prop} {ι : Inj} {A : Act} {w : World}
/-- what a write or a call comes to -/
theorem Inv.spine (hO : Order P ops ms) (hR : CalleeOK P R) (I : Inv P R ops ms a0 n0 base ι0 w0 df a1 σ1 st tail a σ hs d D ι A w) {i : Nat} {o : Oper} (ho : ops[i]? = some o) (hsp : spine P o = true) (hnd : ¬ D i)
    (hsub : ∀ j, (ms.getD i 0).testBit j = true → D j) (hok : operOK n0 o = true) :
    (Region.wanted o (yielded ops A.tmps) = false ∧ ∃ st' a' σ' hs' d' ι', Inv P R ops ms a0 n0 base ι0 w0 df a1 σ1 st' tail a' σ' hs' d' (fun j => D j ∨ j = i) ι' (A.put o.dst undef) w) ∨
    (Region.wanted o (yielded ops A.tmps) = true ∧ (∀ c, o.op ≠ .defer c) ∧ ∃ K, OpGoes P (execOp A.eval o) w K ∧
      ∀ v' w', K v' w' → ∃ st' a' σ' hs' d' ι', Inv P R ops ms a0 n0 base ι0 w0 df a1 σ1 st' tail a' σ' hs' d' (fun j => D j ∨ j = i) ι' (A.put o.dst v') w') := by
  have hds : ¬ bits d i := fun h => hnd (I.sub i h)
  cases st with
  | nil =>
    obtain ⟨d', h1, h2⟩ := okStages_nil I.ok
    have h3 : bits d' i := by rw [h2, bits_full]; exact lt_of_get ho
    rcases (okNeed_bits h1 i).1 h3 with h | h
    · exact (hds h).elim
    · obtain ⟨q, hq, hq2⟩ := (okNeed_mem h1 i h).1
      rw [ho] at hq; cases hq; rw [hsp] at hq2; cases hq2
  | cons x rest =>
    obtain ⟨need, s⟩ := x
    obtain ⟨a', obs, q, v, σ', d', hp, hq, hk1, hst, hr, hk2, hsq, hns, hin, f1, c1, f2, c2, hdst, _⟩ := stage_ahead hO I.ok I.run I.frd I.cld
    have hmem := okNeed_mem hk1
    have his : i = s := by
      apply Classical.byContradiction
      intro hne
      have hDs : ¬ D s := fun h => hns ((okNeed_bits hk1 s).2 (.inl (I.early s q h hq hsq)))
      rcases hO.spine_ordered hne ho hq hsp hsq with h | h
      · exact hDs (hsub s h)
      · rcases (okNeed_bits hk1 i).1 (inMask_spec hin i h) with h | h
        · exact hds h
        · obtain ⟨q', hq', hq2⟩ := (hmem i h).1
          rw [ho] at hq'; cases hq'; rw [hsp] at hq2; cases hq2
    subst his
    rw [ho] at hq; cases hq
    have hkeys := preD_keys hp
    obtain ⟨ιt, sm, rt, tt, bk, same⟩ := I.rel.flips (obs := obs) (base := base) (preD_nodup hp (okNeed_nodup hk1)) fun j ob hj => by
      obtain ⟨B, z, h1, _, _, h4, h5⟩ := I.pend j ob (hsub j (hmem j (hkeys _ hj)).2.2) (hmem j (hkeys _ hj)).2.1 ((Fut.cons hp ho hst).2 (.inl hj))
      exact ⟨B, z, h1, h4, h5⟩
    have hag := agree hO ho c1 I.clD (inMask_spec hin) hsub hns hnd
    have htm := tm_rel f1 hag (fun t ht => (I.tmD t ht).sim sm) (fun t ht => (I.tm0 t ht).sim sm)
    have hw := wanted_of htm
    have hlt : ∀ x, o.dst = some x → x < A.tmps.size := by
      intro x hx
      have hok2 := hok
      simp only [operOK, hx, Bool.and_eq_true] at hok2
      have := hok2.2
      rw [nblt] at this
      rw [I.size]; simpa using this
    have nxt : ∀ {ι' : Inj} {w' : World} {v' : Value}, Kept ιt w ι' w' → Rel ι' σ' w' → VRel ι' v v' → ∃ st' a' σ' hs' d' ι', Inv P R ops ms a0 n0 base ι0 w0 df a1 σ1 st' tail a' σ' hs' d' (fun j => D j ∨ j = i) ι' (A.put o.dst v') w' :=
      fun k r hv => ⟨_, _, _, _, _, _, I.next hnd hsub ho hlt hp hk1 hst hr hk2 hsp f2 c2 hdst sm tt bk same k r hv⟩
    rcases hst with ⟨w1, s1⟩ | ⟨w1, rfl, rfl⟩
    · refine .inr ⟨by rw [hw, w1], noDefer s1, _, stepD_sound hR rt (erel_of htm hok) s1, ?_⟩
      rintro v' w' ⟨ι', k, r, hv⟩
      exact nxt k r hv
    · exact .inl ⟨by rw [hw, w1], nxt (Kept.refl _ _) rt (VRel.undef _)⟩
theorem Inv.finish (hO : Order P ops ms) (I : Inv P R ops ms a0 n0 base ι0 w0 df a1 σ1 st tail a σ hs d D ι A w) (hall : ∀ i, i < ops.size → D i) : ∃ ι', Kept ι0 w0 ι' w ∧ Rel ι' σ1 w ∧ FrRel ι' a1 A.tmps := by
  cases st with
  | cons x rest =>
    obtain ⟨need, s⟩ := x
    obtain ⟨o, d', ho, hk1, hsp, hns, _⟩ := okStages_cons I.ok
    exact (hns ((okNeed_bits hk1 s).2 (.inl (I.early s o (hall s (lt_of_get ho)) ho hsp)))).elim
  | nil =>
    obtain ⟨d', hk1, hd'⟩ := okStages_nil I.ok
    have hrun := I.run
    simp only [stagesD] at hrun
    split at hrun <;> try (cases hrun; done)
    rename_i a2 obs hp
    cases hrun
    have hmem := okNeed_mem hk1
    have hkeys := preD_keys hp
    have hlt : ∀ j ∈ tail, j < ops.size := fun j hj => by obtain ⟨⟨o, ho, _⟩, _⟩ := hmem j hj; exact lt_of_get ho
    have hpend : ∀ j ob, (j, ob) ∈ obs → ∃ B z, ι (base + j) = some ⟨B, 0, z, true⟩ ∧ w0.heap.size ≤ B ∧ (∀ c m, ι c = some m → m.blk = B → c = base + j) ∧ ObjAt ι ob ⟨B, 0, z, false⟩ w := by
      intro j ob hj
      obtain ⟨B, z, h1, h2, _, h4, h5⟩ := I.pend j ob (hall j (hlt j (hkeys _ hj))) (hmem j (hkeys _ hj)).2.1 ((Fut.nil hp).2 hj)
      exact ⟨B, z, h1, h2, h4, h5⟩
    obtain ⟨ιt, sm, rt, tt, bk, same⟩ := I.rel.flips (obs := obs) (base := base) (preD_nodup hp (okNeed_nodup hk1)) fun j ob hj => by
      obtain ⟨B, z, h1, _, h4, h5⟩ := hpend j ob hj
      exact ⟨B, z, h1, h4, h5⟩
    obtain ⟨f1, _⟩ := pre_ahead hO hk1 hp I.frd I.cld fun _ _ => rfl
    refine ⟨ιt, ⟨fun b l hb => ?_, I.wsize, fun B hB hu => ?_, I.os, I.output, I.tape, ?_, fun b l hb => ?_⟩, rt, ⟨?_, fun t => ?_⟩⟩
    · have := I.low b l hb
      rw [same b fun x hx => by omega]; exact I.le b l hb
    · obtain ⟨h1, h2⟩ := I.old B hB hu
      refine ⟨h1, fun b l hb hro => ?_⟩
      rcases bk b l hb with ⟨g1, _⟩ | ⟨_, ⟨x, hx, rfl⟩, l0, g3, g4⟩
      · exact h2 b l g1 hro
      · obtain ⟨B', z, e1, e2, _⟩ := hpend x.1 x.2 hx
        rw [g3] at e1; cases e1
        simp only at g4
        omega
    · have := I.top; have := I.top0; omega
    · have ht0 := I.top0
      rcases bk b l hb with ⟨g1, g2⟩ | ⟨g1, ⟨x, hx, rfl⟩, _⟩
      · refine (I.more b l g1).imp id fun ⟨q1, q2⟩ => ⟨by omega, q2.elim id ?_⟩
        rintro ⟨j, ob, rfl, e2, e3, e4⟩
        exact (g2 _ ((Fut.nil hp).1 e4) rfl).elim
      · exact .inr ⟨by omega, g1⟩
    · rw [I.size, preD_n _ _ _ _ hp, I.an]
    · by_cases h : In ops D t
      · exact (I.tmD t h).sim sm
      · rw [(f1 t).2 ?_]
        · exact (I.tm0 t h).sim sm
        · rintro ⟨j, q, h1, h2, h3⟩
          exact h ⟨j, q, hall j (lt_of_get h2), h2, h3⟩
theorem any_sound (hO : Order P ops ms) (hR : CalleeOK P R) {F : Fence} (hF : Wide F) {n : Nat} {Q : Exit → Act → World → Prop} (hops : ∀ (i : Nat) (o : Oper), ops[i]? = some o → operOK n0 o = true)
    (hQ : ∀ ι' A' w', Kept ι0 w0 ι' w' → Rel ι' σ1 w' → FrRel ι' a1 A'.tmps → A'.defers = df → Q .normal A' w') :
    ∀ (fuel : Nat) (listed : Array Bool) (A : Act) (w : World), countIdx (fun i => !listed.getD i true) ops.size = fuel → listed.size = ops.size →
      (∃ st a σ hs d ι, Inv P R ops ms a0 n0 base ι0 w0 df a1 σ1 st tail a σ hs d (fun i => listed[i]? = some true) ι A w) → wpAnyIn F n P .any ops Q fuel listed A w := by
  intro fuel
  have fin : ∀ (listed : Array Bool) (A : Act) (w : World), (∀ i, i < ops.size → listed[i]? = some true) →
      (∃ st a σ hs d ι, Inv P R ops ms a0 n0 base ι0 w0 df a1 σ1 st tail a σ hs d (fun i => listed[i]? = some true) ι A w) → Q .normal A w := by
    rintro listed A w hall ⟨st, a, σ, hs, d, ι, I⟩
    obtain ⟨ι', k, r, f⟩ := I.finish hO hall
    exact hQ ι' A w k r f I.df
  induction fuel with
  | zero =>
    intro listed A w hc hsz hI
    have hall : ∀ i, i < ops.size → listed[i]? = some true := by
      intro i hi
      have := countIdx_zero _ hc i hi
      simp only [Bool.not_eq_false', Array.getD_eq_getD_getElem?] at this
      cases h : listed[i]? with
      | none => rw [Array.getElem?_eq_none_iff] at h; omega
      | some b => rw [h] at this; simp only [Option.getD_some] at this; rw [this]
    refine ⟨List.eq_nil_iff_forall_not_mem.2 fun i hi => ?_, fin listed A w hall hI⟩
    obtain ⟨h1, o, ho, _⟩ := mem_ready.1 hi
    rw [Array.getD_eq_getD_getElem?, hall i (lt_of_get ho)] at h1
    cases h1
  | succ fuel ih =>
    intro listed A w hc hsz hI
    refine ⟨fun hnil => fin listed A w (fun i => ?_) hI, fun i hi => ?_⟩
    · induction i using Nat.strongRecOn with
      | ind i hind =>
        intro hlt
        have ho : ops[i]? = some ops[i] := by simp [hlt]
        apply Classical.byContradiction
        intro hne
        have : i ∈ Region.ready .any ops listed := by
          refine mem_ready.2 ⟨?_, ops[i], ho, fun e he hb => ?_⟩
          · rw [Array.getD_eq_getD_getElem?]
            cases h : listed[i]? with
            | none => rw [Array.getElem?_eq_none_iff] at h; omega
            | some b =>
              cases b with
              | true => exact (hne h).elim
              | false => rfl
          · have hlt2 := hO.edge i _ e ho he hb
            rw [Array.getD_eq_getD_getElem?, hind e.on hlt2 (by omega)]; rfl
        rw [hnil] at this; cases this
    · obtain ⟨h1, o, ho, hall⟩ := mem_ready.1 hi
      obtain ⟨st, a, σ, hs, d, ι, I⟩ := hI
      have hlt := lt_of_get ho
      have hfalse : listed[i]? = some false := by
        rw [Array.getD_eq_getD_getElem?] at h1
        cases h : listed[i]? with
        | none => rw [h] at h1; cases h1
        | some b => rw [h] at h1; simp only [Option.getD_some] at h1; rw [h1]
      have hnd : ¬ listed[i]? = some true := by rw [hfalse]; simp
      have hsub : ∀ j, (ms.getD i 0).testBit j = true → listed[j]? = some true := by
        intro j hj
        obtain ⟨e, he, hb, h⟩ := hO.mask i o j ho hj
        have he2 : listed[e.on]? = some true := by
          have := hall e he hb
          rw [Array.getD_eq_getD_getElem?] at this
          cases h : listed[e.on]? with
          | none => rw [h] at this; cases this
          | some b => rw [h] at this; simp only [Option.getD_some] at this; rw [this]
        rcases h with rfl | h
        · exact he2
        · exact I.clD e.on j he2 h
      have hset : (fun j => listed[j]? = some true ∨ j = i) = (fun j => (listed.setIfInBounds i true)[j]? = some true) := by
        funext j
        rw [Array.getElem?_setIfInBounds]
        by_cases hji : i = j
        · subst hji
          simp [hsz, hlt]
        · simp [hji, Ne.symm hji]
      have hc2 : countIdx (fun i_1 => !(listed.setIfInBounds i true).getD i_1 true) ops.size = fuel := by
        have := countIdx_upd (f := fun k => !(listed.setIfInBounds i true).getD k true) (g := fun k => !listed.getD k true) (i := i) ops.size hlt (by simp [Array.getD_eq_getD_getElem?, hsz, hlt]) (by simp [Array.getD_eq_getD_getElem?, hfalse])
          (fun j _ hji => by simp only [Array.getD_eq_getD_getElem?, Array.getElem?_setIfInBounds_ne (Ne.symm hji)])
        omega
      have hgo : ∀ A' w', (∃ st a σ hs d ι, Inv P R ops ms a0 n0 base ι0 w0 df a1 σ1 st tail a σ hs d (fun j => listed[j]? = some true ∨ j = i) ι A' w') → wpAnyIn F n P .any ops Q fuel (listed.setIfInBounds i true) A' w' := by
        intro A' w' h
        rw [hset] at h
        exact ih _ A' w' hc2 (by simpa using hsz) h
      unfold wpOpIn
      simp only [ho]
      cases hsp : spine P o with
      | true =>
        rcases I.spine hO hR ho hsp hnd hsub (hops i o ho) with ⟨h1, h2⟩ | ⟨h1, h2, K, h3, h4⟩
        · rw [h1]
          exact ⟨fun f _ => hF.fn f, hgo _ _ h2⟩
        · rw [h1]
          exact h3.wpIn hF h2 fun v' w' hk => hgo _ _ (h4 v' w' hk)
      | false =>
        rcases I.other hO ho hsp hnd hsub (hops i o ho) with ⟨h1, ι', h2⟩ | ⟨h1, h2, v', w', h3, ι', h4⟩
        · rw [h1]
          exact ⟨fun f _ => hF.fn f, hgo _ _ ⟨_, _, _, _, _, _, h2⟩⟩
        · rw [h1]
          exact (OpGoes.value (K := fun v w => v = v' ∧ w = w') h3 ⟨rfl, rfl⟩).wpIn hF h2 fun v w hk => by
            obtain ⟨rfl, rfl⟩ := hk
            exact hgo _ _ ⟨_, _, _, _, _, _, h4⟩
theorem countIdx_false {f : Nat → Bool} (h : ∀ i, f i = false) : ∀ n, countIdx f n = 0
  | 0 => rfl
  | n + 1 => by simp [countIdx, h n, countIdx_false h n]
theorem countIdx_true {f : Nat → Bool} : ∀ n, (∀ i, i < n → f i = true) → countIdx f n = n
  | 0, _ => rfl
  | n + 1, h => by simp only [countIdx, h n (by omega), cond_true, countIdx_true n fun i hi => h i (by omega)]; omega
theorem drawOK_sound (hm : P.follows .mixedOrders = true) (hR : CalleeOK P R) : DrawOK P R := by
  intro F hF n ops Q a a1 σ σ1 ι w A hok hrun hrel hfr hQ id
  simp only [regDraw] at hrun
  obtain ⟨hb, hrun⟩ := bif_some hrun
  simp only [Bool.and_eq_true] at hb
  refine wpIn_region_any hm ?_
  have hn0 : ∀ i, ¬ bits 0 i := fun i h => by simp [bits] at h
  have hD0 : ∀ i : Nat, ¬ (Array.replicate ops.size false)[i]? = some true := by
    intro i h
    rw [Array.getElem?_replicate] at h
    split at h <;> cases h
  have hin0 : ∀ {D : Nat → Prop} t, (∀ i, ¬ D i) → ¬ In ops D t := fun t h ⟨j, _, h1, _⟩ => h j h1
  refine any_sound (order_of rfl hb.1) hR hF (a0 := a.tm) (n0 := a.n) (base := σ.next) (ι0 := ι) (w0 := w) (df := A.defers) (a1 := a1) (σ1 := σ1) (tail := (planOf P ops (masks ops.toList [])).tail) (fun i o ho => allA_mem hok o (Array.mem_of_getElem? ho)) hQ ops.size _ A _
    (countIdx_true _ fun i hi => by simp [Array.getD_eq_getD_getElem?, hi]) (by simp) ⟨(planOf P ops (masks ops.toList [])).stages, a, heldH σ ops.size, [heldH σ ops.size], 0, ι.rise ops.size, ?_⟩
  have hrel' : Rel (ι.rise ops.size) (heldH σ ops.size) { w with drawn := w.drawn + 1 } := (hrel.held ops.size).heap rfl
  have hsd : spinesDone P ops 0 = 0 := countIdx_false (fun i => by simp) _
  exact {
    ok := hb.2
    run := hrun
    frd := fun t => ⟨fun h => (hin0 t hn0 h).elim, fun _ => rfl⟩
    cld := fun i j h => (hn0 i h).elim
    an := rfl
    sub := fun i h => (hn0 i h).elim
    early := fun i o h => (hD0 i h).elim
    clD := fun i j h => (hD0 i h).elim
    last := by rw [hsd]; rfl
    len := by rw [hsd]; rfl
    tmD := fun t h => (hin0 t hD0 h).elim
    tm0 := fun t _ => (hfr.tm t).mono (Inj.le_rise _ _)
    size := hfr.n
    df := rfl
    rel := hrel'
    le := Inj.le_rise _ _
    wsize := Nat.le_refl _
    old := fun B hB hu => ⟨rfl, hu⟩
    os := rfl
    output := rfl
    tape := rfl
    top0 := hrel.top
    low := fun b l hb => (hrel.dom b l hb).1
    top := by simp [Inj.rise, hrel.top]
    res := fun i hi _ => by
      cases h : (ι.rise ops.size) (σ.next + i) with
      | none => rfl
      | some l => have := (hrel.dom (σ.next + i) l h).1; omega
    more := fun b l hb => .inl hb
    pend := fun i ob h => (hD0 i h).elim }
end
end
end Go.Idl

/- The ideal machine, part Zb: the machine is sound. -/
namespace Go.Idl
open Go
noncomputable section

theorem exec_ok {P : Program} (hm : P.follows .mixedOrders = true) {S : FuncId → Option Summary} (hS : ∀ f s, S f = some s → SummaryOK P f s) (k : Nat) : CalleeOK P (exec P S k) :=
  exec_sound hS (fun _ hR => drawOK_sound hm hR) k
end
end Go.Idl

/- The ideal machine, part Zc: what a law needs. -/
namespace Go.Idl
open Go Go.RowKit
noncomputable section

theorem Goes.calls {P : Program} {f : FuncId} {fn : Func} {args : Array Value} {w : World} {K : Value → World → Prop} (hf : P.funcs[f]? = some fn) (hn : (fn.name != "runtime.NumGoroutine") = true) (hb : fn.body.isSome = true)
    {ext : Prop} (h : Goes P ext (callFunc f args) w K) : Calls P f args w fun e w' => ∃ v, e = .returned v ∧ K v w' := by
  have hrun := run_callFunc (P := P) (w := w) (args := args) hf hn hb
  rcases h with ⟨_, v, w', h1, _⟩ | ⟨f', args', w', h1, h2⟩ | ⟨_, l, f', tmps, as, b, w', h1, _⟩
  · rw [hrun] at h1; cases h1
  · rw [hrun] at h1
    cases h1
    exact callsIn_wide.1 (h2 0)
  · rw [hrun] at h1; cases h1
theorem Kept.below {ι ι' : Inj} {w w' : World} (h : Kept ι w ι' w') (hro : ∀ b l, ι b = some l → l.ro = true) : Below w.heap.size w w' :=
  ⟨h.os, h.tape, h.output, h.size, fun k hk => (h.old k hk fun b l hb hl => by rw [hro b l hb] at hl; cases hl).1⟩
/-- a law that is true in the ideal machine is true -/
theorem law_calls {P : Program} (hm : P.follows .mixedOrders = true) {S : FuncId → Option Summary} (hS : ∀ f s, S f = some s → SummaryOK P f s) {k : Nat} {f : FuncId} {fn : Func} (hf : P.funcs[f]? = some fn)
    (hn : (fn.name != "runtime.NumGoroutine") = true) (hb : fn.body.isSome = true) {args args' : Array Value} {σ σ' : Heap} {b : Bool} {ι : Inj} {w : World} (h : exec P S k (.fn f args) σ = some (.bool b, σ'))
    (hrel : Rel ι σ w) (ha : ARel ι args args') (hro : ∀ b l, ι b = some l → l.ro = true) :
    Calls P f args' w fun e w' => e = .returned (.bool b) ∧ Below w.heap.size w w' := by
  have hg := exec_ok hm hS k _ _ _ _ h ι w hrel args' ha
  refine (hg.calls hf hn hb).mono ?_
  rintro e w' ⟨v, rfl, ι', hk, _, hv⟩
  cases hv
  exact ⟨rfl, hk.below hro⟩
/-- an empty heap, beside blocks that are only named -/
def bare (n : Nat) : Heap := { next := n, objs := .e }
theorem obj_bare (n b : Nat) : (bare n).obj b = .dead := by simp [Heap.obj, bare]
theorem rel_bare {ι : Inj} {w : World} {n : Nat} (ht : ι.top = n) (hd : ∀ b l, ι b = some l → b < n ∧ l.blk < w.heap.size) : Rel ι (bare n) w :=
  ⟨hd, fun b _ => obj_bare n b, fun b hb => (by rw [obj_bare] at hb; cases hb), fun b c l m _ hb => (by rw [obj_bare] at hb; cases hb), ht⟩
end
end Go.Idl

/- The ideal machine, for the kernel: whole numbers. -/
namespace Go.Idl
open Go
noncomputable section

def topQ (k : IntKind) : Nat :=
  match k with
  | .i8 => 127
  | .i16 => 32767
  | .i32 => 2147483647
  | .i64 => 9223372036854775807
  | .u8 => 255
  | .u16 => 65535
  | .u32 => 4294967295
  | .u64 => 18446744073709551615
theorem wrap_small {k : IntKind} {n : Nat} (h : n ≤ topQ k) : k.wrap (Int.ofNat n) = Int.ofNat n := by
  cases k <;> simp only [topQ] at h <;> simp [IntKind.wrap, IntKind.bits, IntKind.signed] <;> omega
theorem topQ_lt (k : IntKind) : topQ k < 2 ^ k.bits := by cases k <;> decide
theorem ofInt_small {k : IntKind} {n : Nat} (h : n ≤ topQ k) : (BitVec.ofInt k.bits (Int.ofNat n)).toNat = n := by
  have := topQ_lt k
  rw [show (Int.ofNat n) = ((n : Nat) : Int) from rfl, BitVec.ofInt_natCast, BitVec.toNat_ofNat]
  exact Nat.mod_eq_of_lt (by omega)
theorem topQ_pow (k : IntKind) : ∃ j, topQ k = 2 ^ j - 1 := by
  cases k
  · exact ⟨7, rfl⟩
  · exact ⟨15, rfl⟩
  · exact ⟨31, rfl⟩
  · exact ⟨63, rfl⟩
  · exact ⟨8, rfl⟩
  · exact ⟨16, rfl⟩
  · exact ⟨32, rfl⟩
  · exact ⟨64, rfl⟩
def natQ (op : BinOp) (k : IntKind) (m n : Nat) : Option Value :=
  match op with
  | .add => bif Nat.ble (Nat.add m n) (topQ k) then some (.int k (.ofNat (Nat.add m n))) else none
  | .sub => bif Nat.ble n m then (bif Nat.ble m (topQ k) then some (.int k (.ofNat (Nat.sub m n))) else none) else none
  | .mul => bif Nat.ble (Nat.mul m n) (topQ k) then some (.int k (.ofNat (Nat.mul m n))) else none
  | .eql => some (.bool (Nat.beq m n))
  | .neq => some (.bool (not (Nat.beq m n)))
  | .lss => some (.bool (Nat.ble (Nat.succ m) n))
  | .leq => some (.bool (Nat.ble m n))
  | .gtr => some (.bool (Nat.ble (Nat.succ n) m))
  | .geq => some (.bool (Nat.ble n m))
  | .and => bif Nat.ble m (topQ k) then (bif Nat.ble n (topQ k) then some (.int k (.ofNat (Nat.land m n))) else none) else none
  | .or => bif Nat.ble m (topQ k) then (bif Nat.ble n (topQ k) then some (.int k (.ofNat (Nat.lor m n))) else none) else none
  | .xor => bif Nat.ble m (topQ k) then (bif Nat.ble n (topQ k) then some (.int k (.ofNat (Nat.xor m n))) else none) else none
  | _ => none
theorem lt_pow_of {k : IntKind} {j n : Nat} (hj : topQ k = 2 ^ j - 1) (h : n ≤ topQ k) : n < 2 ^ j := by
  have : 0 < 2 ^ j := Nat.two_pow_pos j
  omega
theorem bif_ble {α : Type} {a b : Nat} {x : Option α} {v : α} (h : (bif Nat.ble a b then x else none) = some v) : a ≤ b ∧ x = some v := by
  cases hb : Nat.ble a b with
  | true => rw [hb] at h; exact ⟨Nat.le_of_ble_eq_true hb, h⟩
  | false => rw [hb] at h; cases h
theorem gndO_pure {P : Program} {v : Value} (h : gnd1 v = true) : gndO (prun P (pure v)) = some v := by
  show (bif gnd1 v then some v else none) = some v
  rw [h]; rfl
theorem blt_int {m n : Nat} : Nat.ble (Nat.succ m) n = decide ((Int.ofNat m) < (Int.ofNat n)) := by
  rw [Bool.eq_iff_iff]; simp; omega
theorem ble_int {m n : Nat} : Nat.ble m n = decide ((Int.ofNat m) ≤ (Int.ofNat n)) := by
  rw [Bool.eq_iff_iff]; simp
theorem beq_int {m n : Nat} : Nat.beq m n = (Int.ofNat m == Int.ofNat n) := by
  rw [Bool.eq_iff_iff]; simp; omega
theorem natQ_eq {P : Program} {op : BinOp} {t : TypeId} {k : IntKind} {m n : Nat} {v : Value} (h : natQ op k m n = some v) :
    gndO (prun P (binOp op t (.int k (.ofNat m)) (.int k (.ofNat n)))) = some v := by
  obtain ⟨j, hj⟩ := topQ_pow k
  have hp : 0 < 2 ^ j := Nat.two_pow_pos j
  cases op <;> simp only [natQ] at h <;> (try (cases h; done))
  case add =>
    obtain ⟨h1, h2⟩ := bif_ble h
    cases h2
    have hw : k.wrap (Int.ofNat m + Int.ofNat n) = Int.ofNat (m + n) := wrap_small h1
    simp only [binOp, ne_eq, not_true_eq_false, if_false, Op.intArith, hw]
    exact gndO_pure rfl
  case sub =>
    obtain ⟨h0, h⟩ := bif_ble h
    obtain ⟨h1, h2⟩ := bif_ble h
    cases h2
    have hw : k.wrap (Int.ofNat m - Int.ofNat n) = Int.ofNat (m - n) := by
      rw [show Int.ofNat m - Int.ofNat n = Int.ofNat (m - n) by simp; omega]
      exact wrap_small (by omega)
    simp only [binOp, ne_eq, not_true_eq_false, if_false, Op.intArith, hw]
    exact gndO_pure rfl
  case mul =>
    obtain ⟨h1, h2⟩ := bif_ble h
    cases h2
    have hw : k.wrap (Int.ofNat m * Int.ofNat n) = Int.ofNat (m * n) := wrap_small h1
    simp only [binOp, ne_eq, not_true_eq_false, if_false, Op.intArith, hw]
    exact gndO_pure rfl
  case eql =>
    cases h
    simp only [binOp, ne_eq, not_true_eq_false, if_false, Op.intCmp, beq_int]
    exact gndO_pure rfl
  case neq =>
    cases h
    simp only [binOp, ne_eq, not_true_eq_false, if_false, Op.intCmp, beq_int]
    exact gndO_pure rfl
  case lss =>
    cases h
    simp only [binOp, ne_eq, not_true_eq_false, if_false, Op.intCmp, blt_int]
    exact gndO_pure rfl
  case leq =>
    cases h
    simp only [binOp, ne_eq, not_true_eq_false, if_false, Op.intCmp, ble_int]
    exact gndO_pure rfl
  case gtr =>
    cases h
    simp only [binOp, ne_eq, not_true_eq_false, if_false, Op.intCmp, blt_int]
    exact gndO_pure rfl
  case geq =>
    cases h
    simp only [binOp, ne_eq, not_true_eq_false, if_false, Op.intCmp, ble_int]
    exact gndO_pure rfl
  case and =>
    obtain ⟨h0, h⟩ := bif_ble h
    obtain ⟨h1, h2⟩ := bif_ble h
    cases h2
    have hw : k.wrap (Int.ofNat (m &&& n)) = Int.ofNat (m &&& n) := wrap_small (Nat.le_trans Nat.and_le_left h0)
    simp only [binOp, ne_eq, not_true_eq_false, if_false, Op.intBits, BitVec.toNat_and, ofInt_small h0, ofInt_small h1]
    rw [show ((m &&& n : Nat) : Int) = Int.ofNat (m &&& n) from rfl, hw]
    exact gndO_pure rfl
  case or =>
    obtain ⟨h0, h⟩ := bif_ble h
    obtain ⟨h1, h2⟩ := bif_ble h
    cases h2
    have hlt := Nat.or_lt_two_pow (lt_pow_of hj h0) (lt_pow_of hj h1)
    have hw : k.wrap (Int.ofNat (m ||| n)) = Int.ofNat (m ||| n) := wrap_small (by omega)
    simp only [binOp, ne_eq, not_true_eq_false, if_false, Op.intBits, BitVec.toNat_or, ofInt_small h0, ofInt_small h1]
    rw [show ((m ||| n : Nat) : Int) = Int.ofNat (m ||| n) from rfl, hw]
    exact gndO_pure rfl
  case xor =>
    obtain ⟨h0, h⟩ := bif_ble h
    obtain ⟨h1, h2⟩ := bif_ble h
    cases h2
    have hlt := Nat.xor_lt_two_pow (lt_pow_of hj h0) (lt_pow_of hj h1)
    have hw : k.wrap (Int.ofNat (m ^^^ n)) = Int.ofNat (m ^^^ n) := wrap_small (by omega)
    simp only [binOp, ne_eq, not_true_eq_false, if_false, Op.intBits, BitVec.toNat_xor, ofInt_small h0, ofInt_small h1]
    rw [show ((m ^^^ n : Nat) : Int) = Int.ofNat (m ^^^ n) from rfl, hw]
    exact gndO_pure rfl
def sameK (a b : IntKind) : Bool := IntKind.rec (motive := fun _ => Bool)
  (match b with | .i8 => true | _ => false) (match b with | .i16 => true | _ => false) (match b with | .i32 => true | _ => false) (match b with | .i64 => true | _ => false)
  (match b with | .u8 => true | _ => false) (match b with | .u16 => true | _ => false) (match b with | .u32 => true | _ => false) (match b with | .u64 => true | _ => false) a
theorem sameK_eq {a b : IntKind} (h : sameK a b = true) : a = b := by
  cases a <;> cases b <;> first | rfl | (cases h)
def binQ (P : Program) (op : BinOp) (t : TypeId) (x y : Operand) (v u : Value) : Option Value :=
  match v, u with
  | .int k (.ofNat m), .int k' (.ofNat n) =>
    bif sameK k k' then
      match natQ op k m n with
      | some r => some r
      | none => binA P op t x y (.int k (.ofNat m)) (.int k' (.ofNat n))
    else binA P op t x y (.int k (.ofNat m)) (.int k' (.ofNat n))
  | v, u => binA P op t x y v u
theorem binQ_eq (P : Program) (op : BinOp) (t : TypeId) (x y : Operand) (v u : Value) : binQ P op t x y v u = binA P op t x y v u := by
  unfold binQ
  split
  · rename_i k m k' n
    cases hs : sameK k k' with
    | false => rfl
    | true =>
      simp only [cond_true]
      split
      · rename_i r hr
        have := sameK_eq hs
        subst this
        unfold binA
        exact (natQ_eq hr).symm
      · rfl
  · rfl
end
end Go.Idl

/- The typed machine, part a: typed values, the words in which functions are printed. -/
namespace Go.Idl
open Go
noncomputable section

abbrev Ans := Option (Value × Heap)
inductive Rep where
  | i (k : IntKind) | b | v | a (n : Nat)
inductive TV where
  | i (k : IntKind) (n : Int) | b (c : Bool) | v (w : Value) | a (l : List Value) | tup (l : List TV) | und | bad
def kix (k : IntKind) : Nat := IntKind.rec (motive := fun _ => Nat) 0 1 2 3 4 5 6 7 k
def kbeq (a b : IntKind) : Bool := Nat.beq (kix a) (kix b)
theorem kbeq_eq {a b : IntKind} (h : kbeq a b = true) : a = b := by cases a <;> cases b <;> first | rfl | cases h
@[simp] theorem kbeq_self (a : IntKind) : kbeq a a = true := by cases a <;> rfl
def isAgg : Value → Bool
  | .agg _ => true
  | _ => false
mutual
def TV.toV : TV → Value
  | .i k n => .int k n
  | .b c => .bool c
  | .v w => w
  | .a l => .agg l.toArray
  | .tup l => .tuple (TV.toVs l).toArray
  | .und => undef
  | .bad => undef
def TV.toVs : List TV → List Value
  | [] => []
  | x :: l => x.toV :: TV.toVs l
end
/-- what a typed value says of a value -/
def TV.OK (x : TV) (u : Value) : Prop :=
  match x with
  | .i k n => u = .int k n
  | .b c => u = .bool c
  | .v w => u = w ∧ isAgg w = false
  | .a l => u = .agg l.toArray
  | .tup l => ∃ us : Array Value, u = .tuple us ∧ us.size = l.length ∧ ∀ (i : Nat) (y : TV) (z : Value), l[i]? = some y → us[i]? = some z → (match y with | .i k n => z = .int k n | .b c => z = .bool c | .v w => z = w ∧ isAgg w = false | .a m => z = .agg m.toArray | .tup _ => False | .und => False | .bad => True)
  | .und => u = undef
  | .bad => True
def TV.cells : TV → Option (List Value)
  | .i k n => some [.int k n]
  | .b c => some [.bool c]
  | .v w => some [w]
  | .a l => some l
  | _ => none
def cst : Value → TV
  | .int k n => .i k n
  | .bool c => .b c
  | .agg cs => .a cs.toList
  | .tuple _ => .bad
  | v => .v v

/-! ### functions of typed values -/
def JT : List Rep → Type := fun l => List.rec (motive := fun _ => Type) (Heap → Ans) (fun r _ ih => Rep.rec (motive := fun _ => Type) (fun _ => Int → ih) (Bool → ih) (Value → ih) (fun _ => List Value → ih) r) l
def lamJ : (rs : List Rep) → (List TV → Heap → Ans) → JT rs :=
  fun rs => List.rec (motive := fun rs => (List TV → Heap → Ans) → JT rs) (fun G σ => G [] σ)
    (fun r l ih => Rep.rec (motive := fun r => (List TV → Heap → Ans) → JT (r :: l)) (fun k G n => ih fun vs => G (.i k n :: vs)) (fun G c => ih fun vs => G (.b c :: vs)) (fun G w => ih fun vs => G (.v w :: vs)) (fun _ G m => ih fun vs => G (.a m :: vs)) r) rs
/-- applied to typed values -/
def appJ : (rs : List Rep) → JT rs → List TV → Heap → Ans
  | [], F, [], σ => F σ
  | .i k :: rs, F, .i k' n :: vs, σ => bif kbeq k' k then appJ rs (F n) vs σ else none
  | .b :: rs, F, .b c :: vs, σ => appJ rs (F c) vs σ
  | .v :: rs, F, .v w :: vs, σ => appJ rs (F w) vs σ
  | .a _ :: rs, F, .a m :: vs, σ => appJ rs (F m) vs σ
  | _, _, _, _ => none
/-- applied to values -/
def appV : (rs : List Rep) → JT rs → List Value → Heap → Ans
  | [], F, [], σ => F σ
  | .i k :: rs, F, .int k' n :: vs, σ => bif kbeq k' k then appV rs (F n) vs σ else none
  | .b :: rs, F, .bool c :: vs, σ => appV rs (F c) vs σ
  | .v :: rs, F, w :: vs, σ => bif isAgg w then none else appV rs (F w) vs σ
  | .a n :: rs, F, .agg m :: vs, σ => bif Nat.beq m.toList.length n then appV rs (F m.toList) vs σ else none
  | _, _, _, _ => none
def botJ : (rs : List Rep) → JT rs := fun rs => lamJ rs fun _ _ => none
def joinK {β : Type} (J : β) (X : β → Ans) : Ans := X J
def loopN {β : Type} (bot : β) (step : β → β) (n : Nat) : β := Nat.rec (motive := fun _ => β) bot (fun _ self => step self) n

/-! ### the words -/
def forceN {β : Type} (n : Nat) (K : Nat → β) : β := Nat.rec (motive := fun _ => β) (K 0) (fun m _ => K (Nat.succ m)) n
def bdI (n : Int) (K : Int → Ans) : Ans := Int.rec (motive := fun _ => Ans) (fun m => forceN m fun m => K (.ofNat m)) (fun m => forceN m fun m => K (.negSucc m)) n
theorem forceN_eq {β : Type} (n : Nat) (K : Nat → β) : forceN n K = K n := by cases n <;> rfl
@[simp] theorem bdI_eq (n : Int) (K : Int → Ans) : bdI n K = K n := by
  cases n with
  | ofNat m => exact forceN_eq m fun m => K (.ofNat m)
  | negSucc m => exact forceN_eq m fun m => K (.negSucc m)
def forceH (σ : Heap) (K : Heap → Ans) : Ans :=
  Heap.rec (motive := fun _ => Ans) (fun nx ob => forceN nx fun nx => T.rec (motive := fun _ => Ans) (K ⟨nx, .e⟩) (fun l v r _ _ => K ⟨nx, .n l v r⟩) ob) σ
@[simp] theorem forceH_eq (σ : Heap) (K : Heap → Ans) : forceH σ K = K σ := by
  rcases σ with ⟨nx, ob⟩
  cases ob with
  | e => exact forceN_eq nx fun nx => K ⟨nx, .e⟩
  | n l v r => exact forceN_eq nx fun nx => K ⟨nx, .n l v r⟩
def forceT {β : Type} (t : T Value) (K : T Value → β) : β := T.rec (motive := fun _ => β) (K .e) (fun l v r _ _ => K (.n l v r)) t
theorem forceT_eq {β : Type} (t : T Value) (K : T Value → β) : forceT t K = K t := by cases t <;> rfl
def forceO {β : Type} (ob : AObj) (K : AObj → β) : β :=
  AObj.rec (motive := fun _ => β)
    (fun r => Row.rec (motive := fun _ => β) (fun size cells ro par kid => forceN size fun size => forceT cells fun cells =>
      Bool.rec (motive := fun _ => β) (K (.row ⟨size, cells, false, par, kid⟩)) (K (.row ⟨size, cells, true, par, kid⟩)) ro) r)
    (fun es => K (.map es)) (fun l => K (.loop l)) (K .dead) ob
theorem forceO_eq {β : Type} (ob : AObj) (K : AObj → β) : forceO ob K = K ob := by
  cases ob with
  | row r =>
    rcases r with ⟨size, cells, ro, par, kid⟩
    cases ro with
    | false => exact (forceN_eq size fun size => forceT cells fun cells => K (.row ⟨size, cells, false, par, kid⟩)).trans (forceT_eq cells fun cells => K (.row ⟨size, cells, false, par, kid⟩))
    | true => exact (forceN_eq size fun size => forceT cells fun cells => K (.row ⟨size, cells, true, par, kid⟩)).trans (forceT_eq cells fun cells => K (.row ⟨size, cells, true, par, kid⟩))
  | map es => rfl
  | loop l => rfl
  | dead => rfl
theorem T.set_self {α : Type} : ∀ (t : T α) (i : Nat) (a : α), t.get i = some a → t.set i a = t
  | .e, i, a, h => by simp at h
  | .n l v r, i, a, h => by
    rw [T.get_n] at h
    rw [T.set_n]
    split
    · rename_i hi; rw [if_pos hi] at h; rw [h]
    · rename_i hi
      rw [if_neg hi] at h
      split
      · rename_i ho; rw [if_pos ho] at h; rw [T.set_self l _ a h]
      · rename_i ho; rw [if_neg ho] at h; rw [T.set_self r _ a h]
/-- the object b of a heap is brought into its plain form -/
def forceAt (b : Nat) (σ : Heap) (K : Heap → Ans) : Ans :=
  Heap.rec (motive := fun _ => Ans) (fun nx ob =>
    match T.get ob b with
    | some x => forceO x fun x => forceH ⟨nx, T.set ob b x⟩ K
    | none => forceH ⟨nx, ob⟩ K) σ
@[simp] theorem forceAt_eq (b : Nat) (σ : Heap) (K : Heap → Ans) : forceAt b σ K = K σ := by
  rcases σ with ⟨nx, ob⟩
  show (match T.get ob b with | some x => forceO x fun x => forceH ⟨nx, T.set ob b x⟩ K | none => forceH ⟨nx, ob⟩ K) = _
  split
  · rename_i x hx
    rw [forceO_eq, forceH_eq, T.set_self ob b x hx]
  · rw [forceH_eq]
/-- a slice's value in its plain form -/
def forceS (v : Value) (K : Value → Ans) : Ans :=
  match v with
  | .slice (some ⟨b, o, sp⟩) n c => forceN b fun b => forceN o fun o => forceN n fun n => forceN c fun c => K (.slice (some ⟨b, o, sp⟩) n c)
  | .slice none n c => forceN n fun n => forceN c fun c => K (.slice none n c)
  | v => K v
@[simp] theorem forceS_eq (v : Value) (K : Value → Ans) : forceS v K = K v := by
  unfold forceS
  split
  · simp only [forceN_eq]
  · simp only [forceN_eq]
  · rfl
def blkOf (v : Value) : Nat :=
  match v with
  | .slice (some a) _ _ => a.block
  | _ => 0
/-- wrapping, quick where nothing is to be done -/
def wr (k : IntKind) (n : Int) : Int :=
  Int.rec (motive := fun _ => Int) (fun m => bif Nat.ble m (topQ k) then .ofNat m else k.wrap (.ofNat m)) (fun m => bif k.signed && Nat.ble m (topQ k) then .negSucc m else k.wrap (.negSucc m)) n
theorem wrap_neg {k : IntKind} {m : Nat} (hs : k.signed = true) (h : m ≤ topQ k) : k.wrap (Int.negSucc m) = Int.negSucc m := by
  have aux : ∀ (b : Nat) (t : Nat), 0 < b → t + 1 = 2 ^ (b - 1) → m ≤ t → (if (Int.negSucc m) % (2 ^ b : Int) ≥ (2 ^ (b - 1) : Int) then (Int.negSucc m) % (2 ^ b : Int) - (2 ^ b : Int) else (Int.negSucc m) % (2 ^ b : Int)) = Int.negSucc m := by
    intro b t hb ht hm
    have h1 : (2 ^ b : Int) = 2 * (2 ^ (b - 1) : Int) := by
      rw [show b = (b - 1) + 1 by omega, Int.pow_succ]; simp; omega
    have h2 : ((2 ^ (b - 1) : Nat) : Int) = (2 ^ (b - 1) : Int) := by simp
    have h3 : ((t + 1 : Nat) : Int) = (2 ^ (b - 1) : Int) := by rw [ht, h2]
    have h4 : (Int.negSucc m) % (2 ^ b : Int) = (2 ^ b : Int) - 1 - m := by
      rw [Int.negSucc_eq]
      rw [show (-((m : Int) + 1)) % (2 ^ b : Int) = ((2 ^ b : Int) - 1 - m) % (2 ^ b : Int) by
        rw [show ((2 ^ b : Int) - 1 - m) = (-((m : Int) + 1)) + (2 ^ b : Int) by omega, Int.add_emod_right]]
      exact Int.emod_eq_of_lt (by omega) (by omega)
    rw [h4, if_pos (by omega), Int.negSucc_eq]; omega
  have hw : ∀ n : Int, k.wrap n = if n % (2 ^ k.bits : Int) ≥ (2 ^ (k.bits - 1) : Int) then n % (2 ^ k.bits : Int) - (2 ^ k.bits : Int) else n % (2 ^ k.bits : Int) := by
    intro n
    unfold IntKind.wrap
    rw [hs]
    simp only [Bool.true_and, decide_eq_true_eq]
  rw [hw]
  exact aux k.bits (topQ k) (by cases k <;> decide) (by cases k <;> first | rfl | cases hs) h
theorem wr_eq (k : IntKind) (n : Int) : wr k n = k.wrap n := by
  cases n with
  | ofNat m =>
    show (bif Nat.ble m (topQ k) then Int.ofNat m else k.wrap (.ofNat m)) = _
    cases h : Nat.ble m (topQ k) with
    | true => exact (wrap_small (Nat.le_of_ble_eq_true h)).symm
    | false => rfl
  | negSucc m =>
    show (bif k.signed && Nat.ble m (topQ k) then Int.negSucc m else k.wrap (.negSucc m)) = _
    cases hs : k.signed with
    | false => rfl
    | true =>
      cases h : Nat.ble m (topQ k) with
      | true => exact (wrap_neg hs (Nat.le_of_ble_eq_true h)).symm
      | false => rfl
def isZ (n : Int) : Bool := Int.rec (motive := fun _ => Bool) (fun m => Nat.beq m 0) (fun _ => false) n
def isNeg (n : Int) : Bool := Int.rec (motive := fun _ => Bool) (fun _ => false) (fun _ => true) n
theorem isZ_eq (n : Int) : isZ n = decide (n = 0) := by
  cases n with
  | ofNat m => show Nat.beq m 0 = _; rw [T.nbeq]; simp
  | negSucc m => show false = _; simp
theorem isNeg_eq (n : Int) : isNeg n = decide (n < 0) := by
  cases n with
  | ofNat m => show false = _; simp
  | negSucc m => show true = _; simp
def natQ' (op : BinOp) (k : IntKind) : Int → Int → Option Int
  | .ofNat m, .ofNat n =>
    bif Nat.ble m (topQ k) && Nat.ble n (topQ k) then
      match op with
      | .and => some (.ofNat (Nat.land m n))
      | .or => some (.ofNat (Nat.lor m n))
      | .xor => some (.ofNat (Nat.xor m n))
      | _ => none
    else none
  | _, _ => none
/-- bits of numbers that are not negative and fit: quick -/
def bitI (op : BinOp) (k : IntKind) (a b : Int) : Int :=
  match natQ' op k a b with
  | some n => n
  | none =>
    match op with
    | .and => k.wrap (BitVec.ofInt k.bits a &&& BitVec.ofInt k.bits b).toNat
    | .or => k.wrap (BitVec.ofInt k.bits a ||| BitVec.ofInt k.bits b).toNat
    | .xor => k.wrap (BitVec.ofInt k.bits a ^^^ BitVec.ofInt k.bits b).toNat
    | _ => k.wrap (BitVec.ofInt k.bits a &&& ~~~BitVec.ofInt k.bits b).toNat
def shrI (a : Int) (n : Nat) : Int := Int.rec (motive := fun _ => Int) (fun m => .ofNat (Nat.shiftRight m n)) (fun m => Int.fdiv (.negSucc m) (2 ^ n)) a
def shlI (a : Int) (n : Nat) : Int := Int.rec (motive := fun _ => Int) (fun m => .ofNat (Nat.shiftLeft m n)) (fun m => (.negSucc m) * 2 ^ n) a
def quoI (a b : Int) : Int := match a, b with
  | .ofNat m, .ofNat n => .ofNat (Nat.div m n)
  | a, b => a.tdiv b
def remI (a b : Int) : Int := match a, b with
  | .ofNat m, .ofNat n => .ofNat (Nat.mod m n)
  | a, b => a.tmod b
/-- whole numbers -/
def arI (op : BinOp) (k : IntKind) (a b : Int) (K : Int → Ans) : Ans :=
  match op with
  | .add => bdI (wr k (Int.add a b)) K
  | .sub => bdI (wr k (Int.sub a b)) K
  | .mul => bdI (wr k (Int.mul a b)) K
  | .quo => bif isZ b then none else bdI (wr k (quoI a b)) K
  | .rem => bif isZ b then none else bdI (remI a b) K
  | .and => bdI (bitI .and k a b) K
  | .or => bdI (bitI .or k a b) K
  | .xor => bdI (bitI .xor k a b) K
  | .andNot => bdI (bitI .andNot k a b) K
  | .shl => bif isNeg b then none else bdI (wr k (shlI a (Nat.min b.toNat k.bits))) K
  | .shr => bif isNeg b then none else bdI (shrI a (Nat.min b.toNat k.bits)) K
  | _ => none
def eqI (a b : Int) : Bool := match a, b with
  | .ofNat m, .ofNat n => Nat.beq m n
  | .negSucc m, .negSucc n => Nat.beq m n
  | _, _ => false
def ltI (a b : Int) : Bool := match a, b with
  | .ofNat m, .ofNat n => Nat.ble (Nat.succ m) n
  | .negSucc m, .negSucc n => Nat.ble (Nat.succ n) m
  | .negSucc _, .ofNat _ => true
  | .ofNat _, .negSucc _ => false
theorem eqI_eq (a b : Int) : eqI a b = decide (a = b) := by
  cases a <;> cases b <;> simp [eqI, T.nbeq] <;> omega
theorem ltI_eq (a b : Int) : ltI a b = decide (a < b) := by
  cases a <;> cases b <;> simp [ltI, nble] <;> omega
def cmpI (op : BinOp) (a b : Int) : Bool :=
  match op with
  | .eql => eqI a b
  | .neq => !eqI a b
  | .lss => ltI a b
  | .leq => !ltI b a
  | .gtr => ltI b a
  | _ => !ltI a b
def isCmp : BinOp → Bool
  | .eql | .neq | .lss | .leq | .gtr | .geq => true
  | _ => false

/-! #### memory -/
def ldI (k : IntKind) (p : Value) (σ : Heap) (K : Int → Ans) : Ans :=
  match p with
  | .pointer (some ⟨b, o, none⟩) =>
    match σ.load1 b o with
    | some (.int k' n) => bif kbeq k' k then K n else none
    | _ => none
  | _ => none
def ldB (p : Value) (σ : Heap) (K : Bool → Ans) : Ans :=
  match p with
  | .pointer (some ⟨b, o, none⟩) =>
    match σ.load1 b o with
    | some (.bool c) => K c
    | _ => none
  | _ => none
def ldV (p : Value) (σ : Heap) (K : Value → Ans) : Ans :=
  match p with
  | .pointer (some ⟨b, o, none⟩) =>
    match σ.load1 b o with
    | some w => bif isAgg w then none else K w
    | none => none
  | _ => none
def ldG (n : Nat) (p : Value) (σ : Heap) (K : List Value → Ans) : Ans :=
  match p with
  | .pointer (some ⟨b, o, none⟩) =>
    match σ.loadL b o n with
    | some vs => K vs
    | none => none
  | _ => none
/-- cells are written, the row brought into its plain form -/
def stQ (b o : Nat) (vs : List Value) (σ : Heap) (K : Heap → Ans) : Ans :=
  match vs, σ.row? b with
  | v :: l, some r =>
    Row.rec (motive := fun _ => Ans) (fun size cells ro par kid =>
      bif ro then none else bif Nat.ble (o + (v :: l).length) size && (v :: l).all cellish then
        forceT (T.ofL cells o (v :: l)) fun cells => forceH (((σ.kill par).kill kid).put b (.row { size := size, cells := cells, ro := false, par := none, kid := none })) K
      else none) r
  | [], _ => K σ
  | _, none => none
def stP (p : Value) (vs : List Value) (σ : Heap) (K : Heap → Ans) : Ans :=
  match p with
  | .pointer (some ⟨b, o, none⟩) => stQ b o vs σ K
  | _ => none
theorem stQ_eq (b o : Nat) (vs : List Value) (σ : Heap) (K : Heap → Ans) : stQ b o vs σ K = (match putL σ b o vs with | some σ' => K σ' | none => none) := by
  cases vs with
  | nil => simp [stQ, putL]
  | cons v l =>
    simp only [stQ, putL, List.isEmpty_cons, cond_false, Heap.storeL]
    cases hr : σ.row? b with
    | none => rfl
    | some r =>
      rcases r with ⟨size, cells, ro, par, kid⟩
      simp only [forceT_eq, forceH_eq]
      cases ro with
      | true => rfl
      | false =>
        simp only [cond_false]
        cases hc : (Nat.ble (o + (v :: l).length) size && (v :: l).all cellish) <;> rfl
def newO (ob : AObj) (σ : Heap) (K : Nat → Heap → Ans) : Ans := forceN σ.next fun id => forceO ob fun ob => forceH (σ.new ob) fun σ' => K id σ'
def fldP (p : Value) (off : Nat) (K : Value → Ans) : Ans :=
  match p with
  | .pointer (some ⟨b, o, none⟩) => forceN (Nat.add o off) fun o' => K (.pointer (some ⟨b, o', none⟩))
  | _ => none
/-- the place of an element of a slice -/
def idxS (n : Nat) (v : Value) (i : Int) (K : Value → Ans) : Ans :=
  match v, i with
  | .slice (some ⟨b, o, _⟩) len _, .ofNat i => bif Nat.blt i len then forceN (Nat.add o (Nat.mul i n)) fun o' => K (.pointer (some ⟨b, o', none⟩)) else none
  | _, _ => none
/-- the place of an element of an array -/
def idxP (len n : Nat) (v : Value) (i : Int) (K : Value → Ans) : Ans :=
  match v, i with
  | .pointer (some ⟨b, o, none⟩), .ofNat i => bif Nat.blt i len then forceN (Nat.add o (Nat.mul i n)) fun o' => K (.pointer (some ⟨b, o', none⟩)) else none
  | _, _ => none
def nchk (v : Value) (K : Value → Ans) : Ans :=
  match v with
  | .pointer (some a) => K (.pointer (some a))
  | .func (.func f) s c => K (.func (.func f) s c)
  | .func (.yield f) s c => K (.func (.yield f) s c)
  | _ => none
def lenV (v : Value) (K : Int → Ans) : Ans :=
  match v with
  | .slice _ n _ => K (.ofNat n)
  | _ => none
def lenS (v : Value) (K : Int → Ans) : Ans :=
  match v with
  | .string s => K (.ofNat s.size)
  | _ => none
def capV (v : Value) (K : Int → Ans) : Ans :=
  match v with
  | .slice none _ c => K (.ofNat c)
  | .slice (some ⟨_, _, none⟩) _ c => K (.ofNat c)
  | _ => none
def nat? (x : Option Int) : Option (Option Nat) :=
  match x with
  | none => some none
  | some (.ofNat n) => some (some n)
  | some (.negSucc _) => none
def slcV (n : Nat) (v : Value) (lo hi mx : Option Int) (K : Value → Ans) : Ans :=
  match nat? lo, nat? hi, nat? mx with
  | some lo, some hi, some mx =>
    match v with
    | .slice none len cap =>
      let m := mx.getD cap
      let h := hi.getD len
      let l := lo.getD 0
      bif Nat.ble m cap && Nat.ble h m && Nat.ble l h && (mx.isNone || hi.isSome) then forceN (Nat.sub h l) fun h' => forceN (Nat.sub m l) fun m' => K (.slice none h' m') else none
    | .slice (some ⟨b, o, sp⟩) len cap =>
      let m := mx.getD cap
      let h := hi.getD len
      let l := lo.getD 0
      bif Nat.ble m cap && Nat.ble h m && Nat.ble l h && (mx.isNone || hi.isSome) then
        match sp with
        | none => forceN (bif Nat.beq m l then o else Nat.add o (Nat.mul l n)) fun o' => forceN (Nat.sub h l) fun h' => forceN (Nat.sub m l) fun m' => K (.slice (some ⟨b, o', none⟩) h' m')
        | some es =>
          bif Nat.beq es n then
            match mx with
            | none => forceN (Nat.add o (Nat.mul l n)) fun o' => forceN (Nat.sub h l) fun h' => forceN (Nat.sub m l) fun m' => K (.slice (some ⟨b, o', some es⟩) h' m')
            | some _ => bif Nat.beq m l then (bif Nat.beq cap 0 then K (.slice (some ⟨b, o, some es⟩) 0 0) else K (.slice (some ⟨b, o, none⟩) 0 0)) else
                forceN (Nat.add o (Nat.mul l n)) fun o' => forceN (Nat.sub h l) fun h' => forceN (Nat.sub m l) fun m' => K (.slice (some ⟨b, o', none⟩) h' m')
          else none
      else none
    | _ => none
  | _, _, _ => none
/-- what can be nil -/
inductive NK where
  | p | s | m | f
def nkOf : TypeDesc → Option NK
  | .pointer _ => some .p
  | .slice _ => some .s
  | .map _ _ => some .m
  | .func _ _ _ => some .f
  | _ => none
/-- are two values, of which one is nil, the same? -/
def nilT (q : NK) (v u : Value) (K : Bool → Ans) : Ans :=
  match q, v, u with
  | .p, .pointer none, .pointer b => K b.isNone
  | .p, .pointer (some _), .pointer none => K false
  | .s, .slice none _ _, .slice b _ _ => K b.isNone
  | .s, .slice (some _) _ _, .slice none _ _ => K false
  | .m, .map none, .map b => K b.isNone
  | .m, .map (some _), .map none => K false
  | .f, .nilFunc, .nilFunc => K true
  | .f, .nilFunc, .func _ _ _ => K false
  | .f, .func _ _ _, .nilFunc => K false
  | _, _, _ => none
/-- equality by the model's own words -/
def eqG (P : Program) (op : BinOp) (t : TypeId) (x y : Operand) (v u : Value) (K : Bool → Ans) : Ans :=
  match binA P op t x y v u with
  | some (.bool c) => K c
  | _ => none
/-- a cell of a value of many -/
def nthI (l : List Value) (off : Nat) (k : IntKind) (K : Int → Ans) : Ans :=
  match nthL l off with
  | some (.int k' n) => bif kbeq k' k then K n else none
  | _ => none
def nthB (l : List Value) (off : Nat) (K : Bool → Ans) : Ans :=
  match nthL l off with
  | some (.bool c) => K c
  | _ => none
def nthV (l : List Value) (off : Nat) (K : Value → Ans) : Ans :=
  match nthL l off with
  | some w => bif isAgg w then none else K w
  | none => none
def nthG (l : List Value) (off n : Nat) (K : List Value → Ans) : Ans := bif Nat.ble (off + n) l.length then K ((l.drop off).take n) else none
def idxI (len n : Nat) (l : List Value) (i : Int) (k : IntKind) (K : Int → Ans) : Ans :=
  match i with
  | .ofNat i => bif Nat.blt i len then nthI l (i * n) k K else none
  | _ => none
def idxB (len n : Nat) (l : List Value) (i : Int) (K : Bool → Ans) : Ans :=
  match i with
  | .ofNat i => bif Nat.blt i len then nthB l (i * n) K else none
  | _ => none
def idxV (len n : Nat) (l : List Value) (i : Int) (K : Value → Ans) : Ans :=
  match i with
  | .ofNat i => bif Nat.blt i len then nthV l (i * n) K else none
  | _ => none
def idxL (len n : Nat) (l : List Value) (i : Int) (m : Nat) (K : List Value → Ans) : Ans :=
  match i with
  | .ofNat i => bif Nat.blt i len then nthG l (i * n) m K else none
  | _ => none
def idxT (v : Value) (i : Int) (K : Int → Ans) : Ans :=
  match v, i with
  | .string s, .ofNat i =>
    match nthL s.data.toList i with
    | some b => bdI (.ofNat b.toNat) K
    | none => none
  | _, _ => none
@[reducible] def nthR (l : List Value) (off : Nat) (r : Rep) (K : TV → Ans) : Ans :=
  match r with
  | .a n => nthG l off n fun m => K (.a m)
  | .i k => nthI l off k fun n => K (.i k n)
  | .b => nthB l off fun c => K (.b c)
  | .v => nthV l off fun w => K (.v w)
/-- a slice is made -/
def mslT (z : List Value) (sz by_ : Nat) (l c : Int) (K : AObj → Nat → Nat → Ans) : Ans :=
  match l, c with
  | .ofNat l', .ofNat c' =>
    bif Nat.ble l' c' && Nat.ble c' (2 ^ 40) && Nat.ble (by_ * c') (2 ^ 48) && Nat.blt 0 z.length then
      K (bif Nat.beq sz 1 && Nat.beq z.length 1 then .row { size := c', cells := T.rep c' ((z.head?).getD undef), ro := false, par := none, kid := none } else mkRow (zerosOf z.toArray (c' * sz))) l' c'
    else none
  | _, _ => none
/-- append: es: cells of an element, by_: its bytes, z: a zero -/
def appS (P : Program) (es by_ : Nat) (z : List Value) (zt : Option TypeId) (v x : Value) (σ : Heap) (K : Value → Heap → Ans) : Ans :=
  match v with
  | .slice base len cap =>
    match fastA P σ es by_ zt base len cap x with
    | some (u, σ') => forceS u fun u => forceAt (blkOf u) σ' fun σ' => K u σ'
    | none =>
      match slowA P σ es by_ z.toArray zt base len cap x with
      | some (u, σ') => forceS u fun u => forceAt (blkOf u) σ' fun σ' => K u σ'
      | none => none
  | _ => none
def copS (es : Nat) (v x : Value) (σ : Heap) (K : Int → Heap → Ans) : Ans :=
  match v with
  | .slice base dl _ =>
    match srcLen x with
    | some sl =>
      match srcCells σ es (Nat.min sl dl) x with
      | some vs =>
        match base with
        | none => K (.ofNat (Nat.min sl dl)) σ
        | some ⟨b, o, _⟩ =>
          match putL σ b o vs with
          | some σ' => forceAt b σ' fun σ' => K (.ofNat (Nat.min sl dl)) σ'
          | none => none
      | none => none
    | none => none
  | _ => none
/-! #### by the ideal machine's own words: maps, texts -/
def toS (P : Program) (src dst : TypeId) (v : Value) (σ : Heap) (K : Value → Ans) : Ans :=
  match toStrA P σ src dst v with
  | some w => bif isAgg w then none else K w
  | none => none
def lk1 (P : Program) (t : TypeId) (m : Value) (k : IntKind) (n : Int) (r : Rep) (σ : Heap) (F : JT [r]) : Ans :=
  match lookupA P σ t m (.int k n) false with
  | some w => appV [r] F [w] σ
  | none => none
def lk2 (P : Program) (t : TypeId) (m : Value) (k : IntKind) (n : Int) (r : Rep) (σ : Heap) (F : JT [r, .b]) : Ans :=
  match lookupA P σ t m (.int k n) true with
  | some (.tuple vs) => appV [r, .b] F vs.toList σ
  | _ => none
def byH (x : Option Heap) (K : Heap → Ans) : Ans :=
  match x with
  | some σ => forceH σ K
  | none => none
def byV (x : Option (Value × Heap)) (K : Value → Heap → Ans) : Ans :=
  match x with
  | some (w, σ) => bif isAgg w then none else forceH σ fun σ => K w σ
  | none => none
/-! #### calls -/
def callJ (rs : List Rep) (R : Callee) (t : Tgt) (σ : Heap) (F : JT rs) : Ans :=
  match rs with
  | [] =>
    match R t σ with
    | some (_, σ') => appV [] F [] σ'
    | none => none
  | [r] =>
    match R t σ with
    | some (w, σ') => appV [r] F [w] σ'
    | none => none
  | r :: q :: rs =>
    match R t σ with
    | some (.tuple ws, σ') => appV (r :: q :: rs) F ws.toList σ'
    | _ => none
def fnOf (f : Value) (args : List Value) (K : Tgt → Ans) : Ans :=
  match f with
  | .func (.func g) first cap => K (.fn g (first ++ args.toArray ++ cap))
  | .func (.yield l) first _ => K (.round l (first ++ args.toArray))
  | _ => none
end
end Go.Idl

/- The typed machine, part b: operations. -/
namespace Go.Idl
open Go
noncomputable section

def evT (ρ : T TV) : Operand → TV
  | .tmp t => (ρ.get t).getD .bad
  | .const v => cst v
  | .global _ => .bad
  | .func f => .v (.func (.func f) #[] #[])
/-- what a typed activation says of an activation -/
def OKE (ρ : T TV) (e : Env) : Prop := ∀ x, (evT ρ x).OK (e x)

def repOf (P : Program) (t : TypeId) : Option Rep :=
  match P.underlying t with
  | some .bool => some .b
  | some (.int k) => some (.i k)
  | some (.struct _) | some (.array _ _) =>
    match tsz P t with
    | some n => some (.a n)
    | none => none
  | some (.tuple _) => none
  | some _ => some .v
  | none => none
def repsOf (P : Program) : List TypeId → Option (List Rep)
  | [] => some []
  | t :: l =>
    match repOf P t, repsOf P l with
    | some r, some rs => some (r :: rs)
    | _, _ => none
def isShift : BinOp → Bool
  | .shl | .shr => true
  | _ => false
def eqlB : BinOp → Option Bool
  | .eql => some true
  | .neq => some false
  | _ => none
def flipB (e c : Bool) : Bool := bif e then c else !c
def eqB (a b : Bool) : Bool := bif a then b else !b
def minI (a b : Int) : Int := bif ltI b a then b else a
def maxI (a b : Int) : Int := bif ltI a b then b else a
def stN (n : Nat) (p : Value) (vs : List Value) (σ : Heap) (K : Heap → Ans) : Ans := bif Nat.beq vs.length n then stP p vs σ K else none
def cvW (P : Program) (σ : Heap) (src dst : TypeId) (v : Value) : Option (Value × Heap) :=
  match markA P σ src dst v with
  | some r => some r
  | none => strA P σ src dst v
/-- both ways -/
def heH (n : Nat) (σ : Heap) (K : Nat → Heap → Ans) : Ans := forceN σ.next fun b => forceH (heldH σ n) fun σ => K b σ
def puO (base : Nat) (obs : List (Nat × AObj)) (σ : Heap) (K : Heap → Ans) : Ans := forceH (puts base obs σ) K
/-- a number of no use, but that its text names all the words: so the kernel opens the machine first -/
def tall : Nat := by
  have := @callJ; have := @fnOf; have := @stN; have := @appS; have := @copS; have := @newO; have := @mslT; have := @slcV; have := @lk1; have := @lk2; have := @toS; have := @byH; have := @byV; have := @eqG
  have := @nthI; have := @nthB; have := @nthV; have := @nthG; have := @idxI; have := @idxB; have := @idxV; have := @idxL; have := @idxT; have := @arI; have := @bdI; have := @idxS; have := @idxP; have := @fldP; have := @nchk; have := @lenV; have := @lenS; have := @capV
  have := @nilT; have := @cvW; have := @heH; have := @puO; have := @joinK; have := @loopN; have := @ldI; have := @ldB; have := @ldV; have := @ldG; have := @cmpI; have := @veq
  exact 0
def tl {α : Sort _} (a : α) : α := (fun (_ : Nat) => a) tall
def cndT {α : Type} (c : Bool) (a b : α) : α := (fun (_ : Nat) => Bool.rec (motive := fun _ => α) b a c) tall
@[simp] theorem tl_eq {α : Sort _} (a : α) : tl a = a := rfl
@[simp] theorem cndT_eq {α : Type} (c : Bool) (a b : α) : cndT c a b = bif c then a else b := by cases c <;> rfl
def binT (P : Program) (op : BinOp) (t : TypeId) (x y : Operand) (u v : TV) (K : TV → Ans) : Ans := tl <|
  match u, v with
  | .i k a, .i k' b =>
    match isCmp op with
    | true =>
      match kbeq k k' with
      | true => K (.b (cmpI op a b))
      | false => none
    | false =>
      match isShift op || kbeq k k' with
      | true => arI op k a b fun n => K (.i k n)
      | false => none
  | .b a, .b b =>
    match P.underlying t, eqlB op with
    | some .bool, some e => K (.b (flipB e (eqB a b)))
    | _, _ => none
  | .v a, .v b =>
    match eqlB op, P.underlying t with
    | some e, some d =>
      match nkOf d with
      | some q => nilT q a b fun c => K (.b (flipB e c))
      | none => none
    | _, _ => none
  | .a l, .a m => eqG P op t x y (.agg l.toArray) (.agg m.toArray) fun c => K (.b c)
  | _, _ => none
def optT (ρ : T TV) (x : Option Operand) (K : Option Int → Ans) : Ans := tl <|
  match x with
  | none => K none
  | some y =>
    match evT ρ y with
    | .i _ n => K (some n)
    | _ => none
def ovw (off : Nat) (vs cells : List Value) : List Value := cells.take off ++ vs ++ cells.drop (off + vs.length)
def fillT (place : Nat → Option (Nat × Nat)) (cells : List Value) : List (Nat × TV) → Option (List Value)
  | [] => some cells
  | (i, x) :: rest =>
    match place i, x.cells with
    | some (off, size), some vs => bif Nat.beq vs.length size && Nat.ble (off + vs.length) cells.length then fillT place (ovw off vs cells) rest else none
    | _, _ => none
def fillK (x : Option (List Value)) (K : List Value → Ans) : Ans :=
  match x with
  | some l => K l
  | none => none
def partsT (ρ : T TV) (ps : List (Nat × Operand)) : List (Nat × TV) := ps.map fun p => (p.1, evT ρ p.2)
def buildT (P : Program) (t : TypeId) (ps : List (Nat × TV)) : Option (List Value) :=
  match zeroA P t with
  | none => none
  | some z =>
    match P.underlying t with
    | some (.struct fs) =>
      match placesA P fs.toList with
      | none => none
      | some pl => fillT (nthL pl) z.toList ps
    | some (.array _ elem) =>
      match tsz P elem with
      | none => none
      | some n => fillT (fun i => some (i * n, n)) z.toList ps
    | _ => none
def toVsT : List TV → Option (List Value)
  | [] => some []
  | .bad :: _ => none
  | .und :: _ => none
  | .tup _ :: _ => none
  | x :: l =>
    match toVsT l with
    | some vs => some (x.toV :: vs)
    | none => none
/-- a cell of an array that is a value -/
def idxG (len n : Nat) (l : List Value) (i : Int) (r : Rep) (K : TV → Ans) : Ans := tl <|
  match r with
  | .i k => idxI len n l i k fun n => K (.i k n)
  | .b => idxB len n l i fun n => K (.b n)
  | .v => idxV len n l i fun n => K (.v n)
  | .a m => idxL len n l i m fun n => K (.a n)
def pT (P : Program) (ρ : T TV) (o : Oper) (K : TV → Ans) : Ans := tl <|
  match o.op with
  | .move x => K (evT ρ x)
  | .assign x => K (evT ρ x)
  | .binOp op t x y _ => binT P op t x y (evT ρ x) (evT ρ y) K
  | .unOp op _ x =>
    match op, evT ρ x with
    | .not, .b c => K (.b (!c))
    | .neg, .i k n => bdI (wr k (Int.sub 0 n)) fun n => K (.i k n)
    | .xor, .i k n => bdI (bitI .xor k (if k.signed then -1 else k.max) n) fun n => K (.i k n)
    | _, _ => none
  | .convert src dst x =>
    match P.underlying dst, evT ρ x with
    | some (.int k), .i _ n =>
      match P.underlying src with
      | some _ => bdI (wr k n) fun n => K (.i k n)
      | none => none
    | _, _ => none
  | .extract t i =>
    match evT ρ t with
    | .tup l =>
      match nthL l i with
      | some x => K x
      | none => none
    | _ => none
  | .fieldAddr s x f =>
    match P.underlying s with
    | some (.struct fs) =>
      match nthL fs.toList f with
      | some fl =>
        match tsz P fl.type, evT ρ x with
        | some (_ + 1), .v p => fldP p fl.offset fun q => K (.v q)
        | _, _ => none
      | none => none
    | _ => none
  | .field t x f =>
    match P.underlying t with
    | some (.struct fs) =>
      match nthL fs.toList f with
      | some fl =>
        match repOf P fl.type, evT ρ x with
        | some r, .a l => nthR l fl.offset r K
        | _, _ => none
      | none => none
    | _ => none
  | .indexAddr t x i =>
    match P.underlying t with
    | some (.slice elem) =>
      match tsz P elem, evT ρ x, evT ρ i with
      | some n, .v v, .i _ i => idxS n v i fun q => K (.v q)
      | _, _, _ => none
    | some (.array len elem) =>
      match tsz P elem, evT ρ x, evT ρ i with
      | some n, .v v, .i _ i => idxP len n v i fun q => K (.v q)
      | _, _, _ => none
    | _ => none
  | .index t x i =>
    match P.underlying t with
    | some (.array len elem) =>
      match tsz P elem, repOf P elem, evT ρ x, evT ρ i with
      | some n, some r, .a l, .i _ i => idxG len n l i r K
      | _, _, _, _ => none
    | some .string =>
      match evT ρ x, evT ρ i with
      | .v v, .i _ i => idxT v i fun n => K (.i .u8 n)
      | _, _ => none
    | _ => none
  | .nilCheck x =>
    match evT ρ x with
    | .v v => nchk v fun q => K (.v q)
    | _ => none
  | .pick c a b =>
    match evT ρ c with
    | .b t => cndT t (K (evT ρ a)) (K (evT ρ b))
    | _ => none
  | .slice t x l h m =>
    match P.underlying t with
    | some (.slice elem) =>
      match tsz P elem, evT ρ x with
      | some n, .v v => optT ρ l fun l => optT ρ h fun h => optT ρ m fun m => slcV n v l h m fun q => K (.v q)
      | _, _ => none
    | _ => none
  | .build t ps =>
    match buildT P t (partsT ρ ps.toList) with
    | some l => K (.a l)
    | none => none
  | .makeFunc fn first cap =>
    match fn with
    | .func f =>
      match toVsT (first.toList.map (evT ρ)), toVsT (cap.toList.map (evT ρ)) with
      | some a, some b => K (.v (.func (.func f) a.toArray b.toArray))
      | _, _ => none
    | _ => none
  | .call c =>
    match c.callee with
    | .builtin .len =>
      match c.argTypes.toList, c.args.toList with
      | t :: _, x :: _ =>
        match P.underlying t, evT ρ x with
        | some (.slice _), .v v => lenV v fun n => K (.i .i64 n)
        | some .string, .v v => lenS v fun n => K (.i .i64 n)
        | some (.array n _), _ => K (.i .i64 (.ofNat n))
        | some (.pointer arr), _ =>
          match P.underlying arr with
          | some (.array n _) => K (.i .i64 (.ofNat n))
          | _ => none
        | _, _ => none
      | _, _ => none
    | .builtin .cap =>
      match c.argTypes.toList, c.args.toList with
      | t :: _, x :: _ =>
        match P.underlying t, evT ρ x with
        | some (.slice _), .v v => capV v fun n => K (.i .i64 n)
        | _, _ => none
      | _, _ => none
    | .builtin .min =>
      match c.args.toList.map (evT ρ) with
      | [.i k a, .i _ b] => bdI (minI a b) fun n => K (.i k n)
      | _ => none
    | .builtin .max =>
      match c.args.toList.map (evT ρ) with
      | [.i k a, .i _ b] => bdI (maxI a b) fun n => K (.i k n)
      | _ => none
    | _ => none
  | _ => none
def retT : List TV → TV
  | [] => .bad
  | [x] => x
  | l => .tup l
def rT (P : Program) (ρ : T TV) (σ : Heap) (o : Oper) (K : TV → Ans) : Ans := tl <|
  match o.op with
  | .load t x =>
    match repOf P t, evT ρ x with
    | some (.i k), .v p => ldI k p σ fun n => K (.i k n)
    | some .b, .v p => ldB p σ fun c => K (.b c)
    | some .v, .v p => ldV p σ fun w => K (.v w)
    | some (.a n), .v p => ldG n p σ fun l => K (.a l)
    | _, _ => none
  | .lookup t x i ok =>
    match P.underlying t, evT ρ x, evT ρ i with
    | some (.map _ e), .v m, .i k n =>
      match repOf P e with
      | some r =>
        match ok with
        | true => lk2 P t m k n r σ (lamJ [r, .b] fun l _ => K (.tup l))
        | false => lk1 P t m k n r σ (lamJ [r] fun l _ => K (retT l))
      | none => none
    | _, _, _ => none
  | .convert src dst x =>
    match evT ρ x with
    | .v v => toS P src dst v σ fun w => K (.v w)
    | _ => none
  | _ => none
def aT (P : Program) (ρ : T TV) (o : Oper) (K : AObj → (Nat → TV) → Ans) : Ans := tl <|
  match o.op with
  | .alloc elem =>
    match zeroA P elem with
    | some z => K (mkRow z.toList) fun id => .v (ptrTo id)
    | none => none
  | .box _ x =>
    match (evT ρ x).cells with
    | some l => K (mkRow l) fun id => .v (ptrTo id)
    | none => none
  | .buildSlice t len ps =>
    match P.underlying t with
    | some (.slice elem) =>
      match tsz P elem, zeroA P elem with
      | some (sz + 1), some z =>
        match Nat.ble (len * (sz + 1)) (2 ^ 24) && Nat.blt 0 z.size with
        | true =>
          match fillT (fun i => some (i * (sz + 1), sz + 1)) (zerosOf z (len * (sz + 1))) (partsT ρ ps.toList) with
          | some cs => K (mkRow cs) fun id => .v (.slice (some ⟨id, 0, none⟩) len len)
          | none => none
        | false => none
      | _, _ => none
    | _ => none
  | .makeSlice t l c =>
    match P.underlying t with
    | some (.slice elem) =>
      match tsz P elem, zeroA P elem, bytesOf? P elem, evT ρ l, evT ρ c with
      | some (sz + 1), some z, some by_, .i _ l, .i _ c => mslT z.toList (sz + 1) by_ l c fun ob l c => K ob fun id => .v (.slice (some ⟨id, 0, none⟩) l c)
      | _, _, _, _, _ => none
    | _ => none
  | .makeMap t r =>
    match r with
    | none => K (.map []) fun id => .v (.map (some id))
    | some x =>
      match P.underlying t, evT ρ x with
      | some (.map _ _), .i _ _ => K (.map []) fun id => .v (.map (some id))
      | _, _ => none
  | _ => none
def wT (P : Program) (ρ : T TV) (σ : Heap) (o : Oper) (K : TV → Heap → Ans) : Ans := tl <|
  match o.op with
  | .store t x v =>
    match tsz P t, evT ρ x, (evT ρ v).cells with
    | some n, .v p, some vs => stN n p vs σ fun σ => K .bad σ
    | _, _, _ => none
  | .mapUpdate t m k v =>
    match evT ρ m, evT ρ k, toVsT [evT ρ v] with
    | .v m, .i k n, some [w] => byH (mapUpdA P σ t m (.int k n) w) fun σ => K .bad σ
    | _, _, _ => none
  | .insert t m k v =>
    match evT ρ m, evT ρ k, toVsT [evT ρ v] with
    | .v m, .i k n, some [w] => byH (mapUpdA P σ t m (.int k n) w) fun σ => K .bad σ
    | _, _, _ => none
  | .convert src dst x =>
    match evT ρ x with
    | .v v => byV (cvW P σ src dst v) fun w σ => K (.v w) σ
    | _ => none
  | .call c =>
    match c.callee with
    | .builtin .append =>
      match c.argTypes.toList, c.args.toList with
      | t :: ts, x :: y :: _ =>
        match P.underlying t with
        | some (.slice elem) =>
          match tsz P elem, bytesOf? P elem, zeroA P elem with
          | some es, some by_, some z =>
            match Nat.beq z.size es && Nat.blt 0 es with
            | true =>
              match evT ρ x, toVsT [evT ρ y] with
              | .v v, some [w] => appS P es by_ z.toList ts.head? v w σ fun u σ => K (.v u) σ
              | _, _ => none
            | false => none
          | _, _, _ => none
        | _ => none
      | _, _ => none
    | .builtin .copy =>
      match c.argTypes.toList, c.args.toList with
      | t :: _, x :: y :: _ =>
        match P.underlying t with
        | some (.slice elem) =>
          match tsz P elem, evT ρ x, evT ρ y with
          | some es, .v v, .v w => copS es v w σ fun n σ => K (.i .i64 n) σ
          | _, _, _ => none
        | _ => none
      | _, _ => none
    | .builtin .clear =>
      match toVsT (c.args.toList.map (evT ρ)) with
      | some vs => byH (clearA P σ c.argTypes vs.toArray) fun σ => K .bad σ
      | none => none
    | .builtin .delete =>
      match toVsT (c.args.toList.map (evT ρ)) with
      | some vs => byH (delA P σ c.argTypes vs.toArray) fun σ => K .bad σ
      | none => none
    | _ => none
  | _ => none
def tysOf (P : Program) (t : TypeId) : List TypeId :=
  match P.underlying t with
  | some (.tuple ts) => ts.toList
  | _ => [t]
def cT (P : Program) (R : Callee) (ρ : T TV) (σ : Heap) (o : Oper) (K : TV → Heap → Ans) : Ans := tl <|
  match o.op with
  | .call c =>
    match c.callee with
    | .value f =>
      match repsOf P (tysOf P o.type), toVsT (c.args.toList.map (evT ρ)) with
      | some rs, some vs =>
        match f with
        | .func g => callJ rs R (.fn g vs.toArray) σ (lamJ rs fun l σ => K (retT l) σ)
        | f =>
          match evT ρ f with
          | .v w => fnOf w vs fun t => callJ rs R t σ (lamJ rs fun l σ => K (retT l) σ)
          | _ => none
      | _, _ => none
    | _ => none
  | _ => none
end
end Go.Idl

/- The typed machine, part c: regions, statements, functions. -/
namespace Go.Idl
open Go
noncomputable section

def putT (ρ : T TV) (d : Option Tmp) (x : TV) : T TV :=
  match d with
  | none => ρ
  | some d => ρ.set d x
/-- one operation -/
def opT (P : Program) (R : Callee) (ρ : T TV) (σ : Heap) (o : Oper) (K : TV → Heap → Ans) : Ans := tl <|
  match clsOf P o.op with
  | .p => pT P ρ o fun x => K x σ
  | .r => rT P ρ σ o fun x => K x σ
  | .a => aT P ρ o fun ob mk => newO ob σ fun id σ => K (mk id) σ
  | .w => wT P ρ σ o K
  | .c => cT P R ρ σ o K
  | .bad => none
/-- is an operation wanted? behind the test the one that it hangs on is known -/
def gdT (ops : Array Oper) (o : Oper) (ρ : T TV) (K : T TV → Bool → Ans) : Ans := tl <|
  match o.guard with
  | none => K ρ true
  | some (j, w) =>
    match nthL ops.toList j with
    | some q =>
      match q.dst with
      | some d =>
        match ρ.get d with
        | some (.b c) => cndT c (K (ρ.set d (.b true)) w) (K (ρ.set d (.b false)) (!w))
        | some .und => K ρ false
        | _ => none
      | none => none
    | none => none
/-- what an operation that isn't wanted leaves -/
def skipT (o : Oper) (ρ : T TV) (K : T TV → Ans) : Ans := tl <|
  match o.dst with
  | some d => K (ρ.set d .und)
  | none => K ρ
def regT (P : Program) (R : Callee) (ops : Array Oper) (l : List Oper) (N : T TV → Heap → Ans) : T TV → Heap → Ans :=
  List.rec (motive := fun _ => T TV → Heap → Ans) N
    (fun o _ ih ρ σ => gdT ops o ρ fun ρ w => match w with
      | true => opT P R ρ σ o fun x σ => ih (putT ρ o.dst x) σ
      | false => skipT o ρ fun ρ => ih ρ σ) l

/-! ### regions that draw their order -/
def sameTV : TV → TV → Bool
  | .i k n, .i q m => kbeq k q && eqI n m
  | .b a, .b b => eqB a b
  | .v a, .v b => veq a b
  | .a l, .a m => veqL l m
  | _, _ => false
def chkT (P : Program) (ρ : T TV) (o : Oper) (x : TV) (K : Ans) : List Heap → Ans
  | [] => tl K
  | τ :: l => rT P ρ τ o fun y => cndT (sameTV y x) (chkT P ρ o x K l) none
def preT (P : Program) (ops : Array Oper) (ms : List Nat) (base : Nat) (hs : List Heap) : List Nat → T TV → List (Nat × AObj) → (T TV → List (Nat × AObj) → Ans) → Ans
  | [], ρ, obs, K => tl (K ρ obs)
  | i :: l, ρ, obs, K =>
    match nthL ops.toList i with
    | none => none
    | some o =>
      gdT ops o ρ fun ρ w =>
        match w with
        | true =>
          match clsOf P o.op with
          | .p => pT P ρ o fun x => preT P ops ms base hs l (putT ρ o.dst x) obs K
          | .r =>
            match hs.drop (spinesIn P ops (ms.getD i 0)) with
            | [] => none
            | τ :: more => rT P ρ τ o fun x => chkT P ρ o x (preT P ops ms base hs l (putT ρ o.dst x) obs K) more
          | .a => aT P ρ o fun ob mk => preT P ops ms base hs l (putT ρ o.dst (mk (Nat.add base i))) (obs ++ [(i, ob)]) K
          | _ => none
        | false => skipT o ρ fun ρ => preT P ops ms base hs l ρ obs K
def putsT (base : Nat) (obs : List (Nat × AObj)) (σ : Heap) (K : Heap → Ans) : Ans := tl <|
  match obs with
  | [] => K σ
  | x :: l => puO base (x :: l) σ K
def stagesT (P : Program) (R : Callee) (ops : Array Oper) (ms : List Nat) (base : Nat) (N : T TV → Heap → Ans) : List (List Nat × Nat) → List Nat → T TV → Heap → List Heap → Ans
  | [], tail, ρ, σ, hs => preT P ops ms base hs tail ρ [] fun ρ obs => putsT base obs σ fun σ => N ρ σ
  | (need, s) :: rest, tail, ρ, σ, hs =>
    preT P ops ms base hs need ρ [] fun ρ obs => putsT base obs σ fun σ =>
      match nthL ops.toList s with
      | none => none
      | some o =>
        gdT ops o ρ fun ρ w =>
          match w with
          | true => opT P R ρ σ o fun x σ' => stagesT P R ops ms base N rest tail (putT ρ o.dst x) σ' (hs ++ [σ'])
          | false => skipT o ρ fun ρ => stagesT P R ops ms base N rest tail ρ σ (hs ++ [σ])
def drawT (P : Program) (R : Callee) (ops : Array Oper) (N : T TV → Heap → Ans) (ρ : T TV) (σ : Heap) : Ans := tl <|
  match drawOK P ops (masks ops.toList []) && okStages P ops (masks ops.toList []) (planOf P ops (masks ops.toList [])).stages (planOf P ops (masks ops.toList [])).tail 0 with
  | true => heH ops.size σ fun base σ => stagesT P R ops (masks ops.toList []) base N (planOf P ops (masks ops.toList [])).stages (planOf P ops (masks ops.toList [])).tail ρ σ [σ]
  | false => none

/-! ### statements -/
inductive Ann where
  | d | s (a b : Ann) | j (vs : List (Nat × Rep)) (a b : Ann) | c (a b : Ann) | b (a : Ann) | l (vs : List (Nat × Rep)) (a : Ann)
def lmap {α β : Type} (f : α → β) (l : List α) : List β := List.rec (motive := fun _ => List β) [] (fun x _ ih => f x :: ih) l
def repsV (vs : List (Nat × Rep)) : List Rep := lmap (·.2) vs
def getL (vs : List (Nat × Rep)) (ρ : T TV) : List TV := lmap (fun x => (ρ.get x.1).getD .bad) vs
def envL (vs : List (Nat × Rep)) (l : List TV) : T TV :=
  List.rec (motive := fun _ => List TV → T TV) (fun _ => .e) (fun x _ ih l => List.rec (motive := fun _ => T TV) .e (fun y r _ => (ih r).set x.1 y) l) vs l
structure Ks where
  N : T TV → Heap → Ans
  E : Nat → T TV → Heap → Ans
  F : T TV → Heap → Ans
def codeT (P : Program) (L : Nat) (R : Callee) : Code → Ann → (N : T TV → Heap → Ans) → (E : Nat → T TV → Heap → Ans) → (F : T TV → Heap → Ans) → T TV → Heap → Ans
  | .skip, _, N, _, _ => N
  | .label _, _, N, _, _ => N
  | .region _ ops draw, _, N, _, _ =>
    match draw with
    | true => drawT P R ops N
    | false => regT P R ops ops.toList N
  | .seq x y, .s a b, N, E, F => codeT P L R x a (codeT P L R y b N E F) E F
  | .seq x y, .j vs a b, N, E, F => fun ρ σ =>
    joinK (lamJ (repsV vs) fun l σ => codeT P L R y b N E F (envL vs l) σ) fun J => codeT P L R x a (fun ρ σ => appJ (repsV vs) J (getL vs ρ) σ) E F ρ σ
  | .cond c x y, .c a b, N, E, F => fun ρ σ =>
    match evT ρ c with
    | .b t => cndT t (codeT P L R x a N E F ρ σ) (codeT P L R y b N E F ρ σ)
    | _ => none
  | .block id x, .b a, N, E, F => codeT P L R x a N (fun i => match Nat.beq i id with | true => N | false => E i) F
  | .loop x, .l vs a, _, E, F => fun ρ σ =>
    appJ (repsV vs) (loopN (botJ (repsV vs)) (fun self => lamJ (repsV vs) fun l σ => codeT P L R x a (fun ρ σ => appJ (repsV vs) self (getL vs ρ) σ) E F (envL vs l) σ) L) (getL vs ρ) σ
  | .exit id, _, _, E, _ => E id
  | .scope x, a, N, E, F => codeT P L R x a N E F
  | .ret, _, _, _, F => F
  | _, _, _, _, _ => fun _ _ => none
def resT (P : Program) : List ResultVar → T TV → Heap → (List Value → Ans) → Ans
  | [], _, _, K => tl (K [])
  | .tmp t :: l, ρ, σ, K =>
    match toVsT [(ρ.get t).getD .bad] with
    | some [v] => resT P l ρ σ fun vs => K (v :: vs)
    | _ => none
  | .cell x t :: l, ρ, σ, K =>
    match (ρ.get x).getD .bad, repOf P t with
    | .v p, some (.i k) => ldI k p σ fun n => resT P l ρ σ fun vs => K (.int k n :: vs)
    | .v p, some .b => ldB p σ fun n => resT P l ρ σ fun vs => K (.bool n :: vs)
    | .v p, some .v => ldV p σ fun n => resT P l ρ σ fun vs => K (n :: vs)
    | .v p, some (.a m) => ldG m p σ fun n => resT P l ρ σ fun vs => K (.agg n.toArray :: vs)
    | _, _ => none
def envA (l : List TV) : T TV := T.ofL .e 0 l
/-- a function's text, its arguments typed -/
def funT (P : Program) (R : Callee) (L : Nat) (fn : Func) (an : Ann) (rs : List Rep) : JT rs :=
  lamJ rs fun l σ =>
    match fn.body with
    | some c =>
      codeT P L R c an (fun ρ σ => resT P fn.results.toList ρ σ fun vs => some (packR vs, σ)) (fun _ _ _ => none) (fun ρ σ => resT P fn.results.toList ρ σ fun vs => some (packR vs, σ)) (envA l) σ
    | none => none
end
end Go.Idl
