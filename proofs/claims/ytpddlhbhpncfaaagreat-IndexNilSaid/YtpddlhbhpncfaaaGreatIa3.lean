/- An ideal machine of our own, and that it is right: part 3 of 5. -/
import Derived.OrdersIn
import Derived.Test.YtpddlhbhpncfaaaGreatIa2
set_option linter.unusedVariables false
set_option linter.unusedSimpArgs false
/- The ideal machine, part R: functions and rounds; the machine is sound. -/
namespace Go.Idl
open Go
noncomputable section

section
variable {P : Program} {ι : Inj} {σ : Heap} {w : World}
theorem LRel.cons {v v' : Value} {l l' : List Value} (h : VRel ι v v') (hl : LRel ι l l') : LRel ι (v :: l) (v' :: l') := by
  refine ⟨by simp [hl.1], fun i u u' h1 h2 => ?_⟩
  cases i with
  | zero => simp at h1 h2; subst h1; subst h2; exact h
  | succ i => exact hl.2 i u u' (by simpa using h1) (by simpa using h2)
def resOf (A : Array Value) : ResultVar → Sem Value
  | .tmp t => pure (A.getD t undef)
  | .cell a t => do loadVar t (← asAddr (A.getD a undef))
theorem resultsA_sound (h : Rel ι σ w) {fr : Fr} {A : Array Value} (hf : FrRel ι fr A) : ∀ (rs : List ResultVar) (vs : List Value), resultsA P fr σ rs = some vs →
    ∃ vs', (rs.mapM (resOf A)).run P w = .ok vs' w ∧ LRel ι vs vs'
  | [], vs, hs => by
    simp only [resultsA, Option.some.injEq] at hs
    subst hs
    exact ⟨[], rfl, ⟨rfl, fun i v v' h => by simp at h⟩⟩
  | .tmp t :: rs, vs, hs => by
    simp only [resultsA] at hs
    split at hs <;> try (cases hs; done)
    rename_i us hus
    cases hs
    obtain ⟨us', h1, h2⟩ := resultsA_sound h hf rs us hus
    refine ⟨A.getD t undef :: us', ?_, .cons (hf.tm t) h2⟩
    simp only [List.mapM_cons, resOf, Sem.run_bind, Sem.run_pure, Result.andThen_ok, h1]
  | .cell x t :: rs, vs, hs => by
    simp only [resultsA] at hs
    split at hs <;> try (cases hs; done)
    rename_i v us hv hus
    cases hs
    obtain ⟨us', h1, h2⟩ := resultsA_sound h hf rs us hus
    have hx := hf.tm x
    obtain ⟨v', g1, g2⟩ := loadA_sound h hx hv
    refine ⟨v' :: us', ?_, .cons g1 h2⟩
    simp only [Fr.ev] at hv
    generalize (fr.tm.get x).getD undef = y at hv hx
    generalize hy' : A.getD x undef = y' at hx g2
    have hk : ∃ p, y' = .pointer (some p) := by
      unfold loadA at hv
      split at hv <;> try (cases hv; done)
      cases hx
      exact ⟨_, rfl⟩
    obtain ⟨p, rfl⟩ := hk
    simp only [Instr.loadAt, Instr.sureAddr, Sem.run_bind, Sem.run_pure, Result.andThen_ok] at g2
    simp only [List.mapM_cons, resOf, hy', asAddr, Sem.run_bind, Sem.run_pure, Result.andThen_ok, g2, h1]
theorem packR_rel {vs vs' : List Value} (h : LRel ι vs vs') : VRel ι (packR vs) (if h : vs'.toArray.size = 1 then vs'.toArray[0] else .tuple vs'.toArray) := by
  have hl := h.1
  by_cases h1 : vs'.length = 1
  · match vs', h1 with
    | [v'], _ =>
      match vs, hl with
      | [v], _ => simpa [packR] using h.2 0 v v' rfl rfl
  · have hp : packR vs = .tuple vs.toArray := by
      unfold packR
      split
      · simp at hl; omega
      · rfl
    rw [dif_neg (by simpa using h1), hp]
    exact .tuple (by simpa using hl) fun i v v' g1 g2 => h.2 i v v' (by simpa using g1) (by simpa using g2)
theorem results_sound (h : Rel ι σ w) {fr : Fr} {A : Array Value} (hf : FrRel ι fr A) {fn : Func} {vs : List Value} (hs : resultsA P fr σ fn.results.toList = some vs) :
    ∃ v', (results fn A).run P w = .ok v' w ∧ VRel ι (packR vs) v' := by
  obtain ⟨vs', h1, h2⟩ := resultsA_sound h hf _ _ hs
  refine ⟨_, ?_, packR_rel h2⟩
  have he : results fn A = (do let vs ← fn.results.mapM (resOf A); pure (if h : vs.size = 1 then vs[0] else .tuple vs)) := rfl
  rw [he, Array.mapM_eq_mapM_toList]
  simp only [Sem.run_bind, Sem.run_map, h1, Sem.run_pure, Result.andThen_ok]
/-- a mark's block is shut -/
theorem Rel.shut (h : Rel ι σ w) {r : Nat} {x : Option (List Deferred)} (hr : w.heap[r]? = some (.deferred x)) (y : Obj) : Rel ι σ (World.setObj w r y) := by
  have hlt : r < w.heap.size := by
    rcases Nat.lt_or_ge r w.heap.size with h | h
    · exact h
    · rw [Array.getElem?_eq_none h] at hr; cases hr
  refine ⟨fun c m hm => by simpa using h.dom c m hm, h.fresh, fun c hc => ?_, h.sep, h.top⟩
  obtain ⟨m, hm, ho⟩ := h.at_ c hc
  suffices hne : ¬ m.blk = r from ⟨m, hm, ho.mono (.refl _) (by rw [heap_setObj _ _ _ _ hlt, if_neg hne])⟩
  intro hh
  rw [← hh] at hr
  cases hob : σ.obj c with
  | row ro =>
    rw [hob] at ho
    obtain ⟨_, c1, e1, f1, g1, _⟩ := ho
    rw [hr] at g1; cases g1
  | map es =>
    rw [hob] at ho
    obtain ⟨_, c1, e1, g1, _⟩ := ho
    rw [hr] at g1; cases g1
  | loop a =>
    rw [hob] at ho
    obtain ⟨_, c1, g1, _⟩ := ho
    rw [hr] at g1; cases g1
  | dead => rw [hob] at hc; cases hc
theorem leaves_marks {F : Fence} {n : Nat} {fn : Func} {tmps : Array Value} {R : Ending → World → Prop} {ι0 : Inj} {w0 : World} :
    ∀ (rs : List Nat) (w : World), rs.Nodup → (∀ r ∈ rs, w0.heap.size ≤ r ∧ r < w.heap.size ∧ w.heap[r]? = some (.deferred (some []))) → Rel ι σ w → Kept ι0 w0 ι w →
      (∀ w', Rel ι σ w' → Kept ι0 w0 ι w' → ∃ v, (results fn tmps).run P w' = .ok v w' ∧ R (.returned v) w') →
      LeavesInM F n P fn tmps R (rs.map (fun r => ({ target := .collected r, args := #[] } : Deferred))) .returning w
  | [], w, _, _, hr, hk, hfin => hfin w hr hk
  | r :: rs, w, hnd, hall, hr, hk, hfin => by
    obtain ⟨g1, g2, g3⟩ := hall r (by simp)
    obtain ⟨n1, n2⟩ := List.nodup_cons.1 hnd
    refine ⟨by simp, .inl ⟨r, World.setObj w r (.deferred none), rfl, run_takeDeferred g3, ?_⟩⟩
    refine leaves_marks rs _ n2 (fun x hx => ?_) (hr.shut g3 _) ⟨hk.le, by simpa using hk.size, fun B hB hu => ?_, hk.os, hk.output, hk.tape, hk.more⟩ hfin
    · obtain ⟨u1, u2, u3⟩ := hall x (by simp [hx])
      refine ⟨u1, by simpa using u2, ?_⟩
      rw [heap_setObj _ _ _ _ g2, if_neg (fun (hh : x = r) => n1 (hh ▸ hx))]
      exact u3
    · rw [heap_setObj _ _ _ _ g2, if_neg (by omega)]
      exact hk.old B hB hu

/-- what a summary answers for -/
def SummaryOK (P : Program) (f : FuncId) (s : Summary) : Prop := ∀ R, CalleeOK P R → ∀ args σ v σ', s R args σ = some (v, σ') → ∀ ι w, Rel ι σ w → ∀ args', ARel ι args args' → Goes P (noBody P f) (callFunc f args') w (After ι w v σ')
theorem setTmps_rel : ∀ (ts : List Tmp) (vs vs' : List Value) (tm : T Value) (A : Array Value), (∀ t ∈ ts, t < A.size) → LRel ι vs vs' → TRel ι tm A →
    TRel ι (setTmps tm ts vs) ((ts.zip vs').foldl (fun tmps (x : Tmp × Value) => tmps.setIfInBounds x.1 x.2) A)
  | [], vs, vs', tm, A, _, _, h => by cases vs <;> exact h
  | t :: ts, [], vs', tm, A, _, hl, h => by
    have : vs' = [] := by have := hl.1; cases vs' <;> simp_all
    subst this; exact h
  | t :: ts, v :: vs, [], tm, A, _, hl, h => by have := hl.1; simp at this
  | t :: ts, v :: vs, v' :: vs', tm, A, hlt, hl, h => by
    simp only [setTmps, List.zip_cons_cons, List.foldl_cons]
    refine setTmps_rel ts vs vs' _ _ (fun x hx => by simpa using hlt x (by simp [hx])) ⟨by have := hl.1; simpa using this, fun i a b h1 h2 => hl.2 (i + 1) a b (by simpa using h1) (by simpa using h2)⟩ fun i => ?_
    have ht := hlt t (by simp)
    rw [T.get_set]
    by_cases hi : i = t
    · subst hi
      rw [if_pos rfl]
      simp only [Array.getD_eq_getD_getElem?, Array.getElem?_setIfInBounds_self_of_lt ht, Option.getD_some]
      exact hl.2 0 v v' rfl rfl
    · rw [if_neg hi]
      have := h i
      simp only [Array.getD_eq_getD_getElem?] at this ⊢
      rw [Array.getElem?_setIfInBounds_ne (Ne.symm hi)]
      exact this
theorem size_foldl_set : ∀ (l : List (Tmp × Value)) (A : Array Value), (l.foldl (fun tmps (x : Tmp × Value) => tmps.setIfInBounds x.1 x.2) A).size = A.size
  | [], A => rfl
  | x :: l, A => by rw [List.foldl_cons, size_foldl_set l]; simp
theorem run_yield {B : Nat} {r : Loop} {args : Array Value} (h : w.heap[B]? = some (.loop r)) (hs : args.size = r.params.size) :
    (Instr.yield B args).run P w = .ok (.round B r.fn ((r.params.toList.zip args.toList).foldl (fun tmps (x : Tmp × Value) => tmps.setIfInBounds x.1 x.2) r.tmps) r.assign r.body) w := by
  have hz : (r.params.zip args).toList = r.params.toList.zip args.toList := by simp
  have hf : (r.params.zip args).foldl (fun tmps (x : Tmp × Value) => tmps.setIfInBounds x.1 x.2) r.tmps = (r.params.toList.zip args.toList).foldl (fun tmps (x : Tmp × Value) => tmps.setIfInBounds x.1 x.2) r.tmps := by
    rw [← Array.foldl_toList, hz]
  simp only [Instr.yield, Sem.run_bind, run_getLoop h, Result.andThen_ok, hs, ne_eq, not_true_eq_false, if_false, Sem.run_pure]
  rw [← hf]
theorem fnArgs_rel {args args' : Array Value} (h : ARel ι args args') {n : Nat} (hn : args.size ≤ n) :
    FrRel ι { n := n, tm := T.ofL .e 0 args.toList } (args' ++ Array.replicate (n - args'.size) undef) := by
  have h1 := h.1
  refine ⟨by simp; omega, fun i => ?_⟩
  rw [T.get_ofL]
  simp only [Array.getD_eq_getD_getElem?, Nat.zero_le, true_and, Nat.zero_add, Array.length_toList, Nat.sub_zero]
  by_cases hi : i < args.size
  · rw [if_pos hi, Array.getElem?_append, if_pos (by omega)]
    have e1 : args.toList[i]? = some args[i] := by simp [hi]
    have e2 : args'[i]? = some (args'[i]'(by omega)) := by simp
    rw [e1, e2]
    exact h.2 i _ _ (by simp [hi]) e2
  · rw [if_neg hi, Array.getElem?_append, if_neg (by omega)]
    have e1 : (T.e : T Value).get i = none := by simp
    rw [e1]
    have e2 : (Array.replicate (n - args'.size) undef)[i - args'.size]?.getD undef = undef := by
      rw [Array.getElem?_replicate]
      split <;> rfl
    rw [e2]
    exact VRel.undef ι
theorem run_callFunc {f : FuncId} {fn : Func} {args : Array Value} (hf : P.funcs[f]? = some fn) (hn : (fn.name != "runtime.NumGoroutine") = true) (hb : fn.body.isSome = true) :
    (callFunc f args).run P w = .ok (.enter f args) w := by
  have h1 : (fn.name == "runtime.NumGoroutine") = false := by simpa [bne] using hn
  have h2 : fn.body.isNone = false := by cases hh : fn.body <;> simp_all
  have hp : (Go.program).run P w = .ok P w := rfl
  simp only [callFunc, Sem.run_bind, hp, Result.andThen_ok, hf, h1, h2, Bool.false_eq_true, if_false, Sem.run_pure]
end
end
end Go.Idl

/- The ideal machine, part S: the machine is sound. -/
namespace Go.Idl
open Go
noncomputable section

section
variable {P : Program}
theorem CalleeOK.none : CalleeOK P (fun _ _ => none) := by
  intro t σ v σ' h
  cases h
theorem exec_sound {S : FuncId → Option Summary} (hS : ∀ f s, S f = some s → SummaryOK P f s) (hD : ∀ R, CalleeOK P R → DrawOK P R) : ∀ k, CalleeOK P (exec P S k)
  | 0 => by intro t σ v σ' h; simp [exec] at h
  | k + 1 => by
    have ih := exec_sound hS hD k
    have hDk := hD _ ih
    intro t σ v σ' h ι w hr
    cases t with
    | fn f args =>
      intro args' ha
      simp only [exec] at h
      split at h
      · rename_i s hs
        exact hS f s hs _ ih args σ v σ' h ι w hr args' ha
      · split at h <;> try (cases h; done)
        rename_i fn hfn
        obtain ⟨hok, h⟩ := bif_some h
        simp only [Bool.and_eq_true] at hok
        obtain ⟨hok, hsz⟩ := hok
        split at h <;> try (cases h; done)
        rename_i c hc
        simp only [funcOK, hc, Bool.and_eq_true] at hok
        have hsz' : args.size ≤ fn.ntmps := by rw [nble] at hsz; simpa using hsz
        have hfr := fnArgs_rel ha hsz'
        refine .inr (.inl ⟨f, args', w, run_callFunc hfn hok.1 (by rw [hc]; rfl), fun n => ?_⟩)
        refine callsIn_of_wp_marks hfn hc trivial ?_
        have fin : ∀ e st σ1, codeD P k (exec P S k) false c { fr := { n := fn.ntmps, tm := T.ofL .e 0 args.toList }, df := 0 } σ = some (e, st, σ1) → (e = .normal ∨ e = .ret) →
            (match resultsA P st.fr σ1 fn.results.toList with | some vs => some (packR vs, σ1) | none => none) = some (v, σ') →
            Code.wpIn Fence.wide n P c (bodyPostM Fence.wide n P fn fun e w'' => ∃ v', e = .returned v' ∧ After ι w v σ' v' w'') { tmps := args' ++ Array.replicate (fn.ntmps - args'.size) undef, defers := [] } w := by
          intro e st σ1 hcd he hres
          split at hres <;> try (cases hres; done)
          rename_i vs hvs
          cases hres
          refine wpIn_mono (codeD_sound (N0 := w.heap.size) ih hDk (fun _ => rfl) (.inl rfl) c { fr := { n := fn.ntmps, tm := T.ofL .e 0 args.toList }, df := 0 } σ e st σ' ι w
            { tmps := args' ++ Array.replicate (fn.ntmps - args'.size) undef, defers := [] } hok.2 hcd hr hfr (DfRel.nil _ _ _) (Nat.le_refl _)) fun e2 a2 w2 hp => ?_
          obtain ⟨ι2, rfl, k2, r2, f2, ⟨rs, d1, d2, d3, d4⟩, _⟩ := hp
          have hl : LeavesInM Fence.wide n P fn a2.tmps (fun e w'' => ∃ v', e = .returned v' ∧ After ι w (packR vs) σ' v' w'') a2.defers .returning w2 := by
            rw [d2]
            refine leaves_marks rs w2 d3 (fun r hr => ⟨(d4 r hr).1, (d4 r hr).2.1, (d4 r hr).2.2.1⟩) r2 k2 fun w3 r3 k3 => ?_
            obtain ⟨v', g1, g2⟩ := results_sound r3 f2 hvs
            exact ⟨v', g1, v', rfl, ι2, k3, r3, g2⟩
          rcases he with rfl | rfl
          · exact hl
          · exact hl
        split at h
        · rename_i st σ1 hcd; exact fin _ _ _ hcd (.inl rfl) h
        · rename_i st σ1 hcd; exact fin _ _ _ hcd (.inr rfl) h
        · cases h
    | round l args =>
      intro L args' hL ha
      simp only [exec] at h
      split at h <;> try (cases h; done)
      rename_i a hl
      obtain ⟨hok, h⟩ := bif_some h
      simp only [Bool.and_eq_true] at hok
      obtain ⟨⟨⟨hsz, hps⟩, hoa⟩, hob⟩ := hok
      have hsz' : args.size = a.params.size := by simpa using hsz
      split at h <;> try (cases h; done)
      rename_i st σ1 hcd
      split at h <;> try (cases h; done)
      rename_i a1 hl1
      split at h <;> try (cases h; done)
      rename_i hready
      split at h <;> try (cases h; done)
      rename_i e st2 σ2 hcd2
      split at h <;> try (cases h; done)
      rename_i a2 hl2
      obtain ⟨L', r, hL', hro, hob1, hrel⟩ := loop_at hr hl
      rw [hL] at hL'
      cases hL'
      have hrs : args'.size = r.params.size := by rw [hrel.params, ← hsz', ha.1]
      refine .inr (.inr ⟨trivial, _, _, _, _, _, w, run_yield hob1 hrs, fun n => ?_⟩)
      have hlt : ∀ t ∈ r.params.toList, t < r.tmps.size := by
        intro t ht
        rw [hrel.params] at ht
        have := allA_mem hps t (by simpa using ht)
        rw [nblt] at this
        rw [hrel.n]
        simpa using this
      have hfr : FrRel ι { n := a.n, tm := setTmps a.tm a.params.toList args.toList } ((r.params.toList.zip args'.toList).foldl (fun tmps (x : Tmp × Value) => tmps.setIfInBounds x.1 x.2) r.tmps) := by
        refine ⟨by rw [size_foldl_set]; exact hrel.n, ?_⟩
        rw [← hrel.params]
        exact setTmps_rel _ _ _ _ _ hlt ⟨by simpa using ha.1, fun i x y h1 h2 => ha.2 i x y (by simpa using h1) (by simpa using h2)⟩ hrel.tm
      refine roundIn_of_wpIn trivial ?_
      rw [hrel.assign, hrel.body]
      refine wpIn_mono (codeD_sound (N0 := w.heap.size) ih hDk (F := Fence.wide.inRound L.blk) (by intro h; cases h) (.inr ⟨_, rfl⟩) a.assign { fr := { n := a.n, tm := setTmps a.tm a.params.toList args.toList }, df := 0 } σ .normal st σ1 ι w
        { tmps := _, defers := [] } hoa hcd hr hfr (DfRel.nil _ _ _) (Nat.le_refl _)) fun e2 A1 w1 hp => ?_
      obtain ⟨ι1, rfl, k1, r1, f1, d1, n1⟩ := hp
      obtain ⟨L1, rr1, hL1, _, hob2, hrel1⟩ := loop_at r1 hl1
      rw [k1.le _ _ hL] at hL1
      cases hL1
      refine ⟨_, run_beginRound hob2 (by rw [hrel1.state]; exact hready), ?_⟩
      obtain ⟨s1, s2⟩ := r1.setLoop (loopOf_eq hl1) (k1.le _ _ hL) (a2 := { a1 with state := .busy }) (a2' := { rr1 with state := .busy }) ⟨hrel1.n, hrel1.tm, hrel1.params, hrel1.assign, hrel1.body, rfl, hrel1.pending⟩
      refine wpIn_mono (codeD_sound (N0 := w.heap.size) ih hDk (F := Fence.wide.inRound L.blk) (by intro h; cases h) (.inr ⟨_, rfl⟩) a.body st _ e st2 σ2 ι1 _ A1
        (by rw [n1]; exact hob) hcd2 s1 f1 (d1.kept s2) (Nat.le_trans k1.size s2.size)) fun e3 A3 w3 hp => ?_
      obtain ⟨ι3, rfl, k3, r3, f3, _, _⟩ := hp
      have kk : Kept ι w ι3 w3 := k1.trans (s2.trans k3)
      obtain ⟨L3, rr3, hL3, _, hob3, hrel3⟩ := loop_at r3 hl2
      rw [kk.le _ _ hL] at hL3
      cases hL3
      have fin : ∀ (j : Option Code) (b : Bool), j.isNone = b → some (Value.bool b, σ2.put l (.loop { a2 with state := if b then .ready else .done, pending := j })) = some (v, σ') →
          ∃ v w', (Instr.endRound L.blk j).run P w3 = .ok v w' ∧ ∃ v', Ending.returned v = Ending.returned v' ∧ After ι w (.bool b) σ' v' w' := by
        intro j b hj hh
        simp only [Option.some.injEq, Prod.mk.injEq] at hh
        obtain ⟨_, rfl⟩ := hh
        refine ⟨_, _, run_endRound hob3, _, rfl, ?_⟩
        rw [hj]
        obtain ⟨t1, t2⟩ := r3.setLoop (loopOf_eq hl2) (kk.le _ _ hL) (a2 := { a2 with state := if b then .ready else .done, pending := j }) (a2' := { rr3 with state := if b then .ready else .done, pending := j })
          ⟨hrel3.n, hrel3.tm, hrel3.params, hrel3.assign, hrel3.body, rfl, rfl⟩
        exact ⟨ι3, kk.trans t2, t1, .bool b⟩
      cases e with
      | normal =>
        have hv : v = .bool true := by simp at h; exact h.1.symm
        subst hv
        obtain ⟨v1, w4, q1, q2⟩ := fin none true rfl h
        exact ⟨v1, w4, q1, q2⟩
      | exit id =>
        have hv : v = .bool false := by simp at h; exact h.1.symm
        subst hv
        obtain ⟨v1, w4, q1, q2⟩ := fin (some (.exit id)) false rfl h
        exact ⟨v1, w4, q1, q2⟩
      | ret =>
        have hv : v = .bool false := by simp at h; exact h.1.symm
        subst hv
        obtain ⟨v1, w4, q1, q2⟩ := fin (some .ret) false rfl h
        exact ⟨v1, w4, q1, q2⟩
end
end
end Go.Idl

/- The ideal machine, part T: what a region's check says. -/
namespace Go.Idl
open Go
noncomputable section

theorem allIdx_spec {f : Nat → Bool} : ∀ {n : Nat}, allIdx f n = true → ∀ i, i < n → f i = true
  | 0, _, i, hi => by omega
  | n + 1, h, i, hi => by
    simp only [allIdx, Bool.and_eq_true] at h
    by_cases hin : i = n
    · subst hin; exact h.1
    · exact allIdx_spec h.2 i (by omega)
theorem orM_spec {ms : List Nat} {j : Nat} : ∀ (js : List Nat) (acc : Nat), (orM js acc ms).testBit j = true → acc.testBit j = true ∨ ∃ k ∈ js, k = j ∨ (ms.getD k 0).testBit j = true
  | [], acc, h => .inl h
  | k :: js, acc, h => by
    simp only [orM] at h
    rcases orM_spec js _ h with h | ⟨k', h1, h2⟩
    · rw [Nat.testBit_or, Nat.testBit_or, Bool.or_eq_true, Bool.or_eq_true] at h
      rcases h with (h | h) | h
      · exact .inl h
      · rw [Nat.testBit_two_pow] at h
        exact .inr ⟨k, by simp, .inl (by simpa using h)⟩
      · exact .inr ⟨k, by simp, .inr h⟩
    · exact .inr ⟨k', by simp [h1], h2⟩
theorem getD_app1 {l m : List Nat} {k : Nat} (h : k < l.length) : (l ++ m).getD k 0 = l.getD k 0 := by
  simp only [List.getD_eq_getElem?_getD, List.getElem?_append_left h]
theorem getD_app2 {l : List Nat} {a : Nat} : (l ++ [a]).getD l.length 0 = a := by
  simp [List.getD_eq_getElem?_getD]
theorem masks_old : ∀ (l : List Oper) (ms : List Nat) (k : Nat), k < ms.length → (masks l ms).getD k 0 = ms.getD k 0
  | [], ms, k, _ => rfl
  | o :: l, ms, k, h => by
    simp only [masks]
    rw [masks_old l _ k (by simp; omega), getD_app1 h]
theorem masks_spec {j : Nat} : ∀ (l : List Oper) (ms : List Nat) (i : Nat) (o : Oper), l[i]? = some o → ((masks l ms).getD (ms.length + i) 0).testBit j = true →
    ∃ e ∈ o.after, Region.binds .any e = true ∧ (e.on = j ∨ ((masks l ms).getD e.on 0).testBit j = true)
  | [], ms, i, o, h, _ => by simp at h
  | q :: l, ms, 0, o, h, hj => by
    simp at h; subst h
    simp only [masks, Nat.add_zero] at hj ⊢
    rw [masks_old l _ _ (by simp)] at hj
    rw [getD_app2] at hj
    rcases orM_spec _ _ hj with h | ⟨k, h1, h2⟩
    · simp at h
    · simp only [List.mem_map, List.mem_filter] at h1
      obtain ⟨e, ⟨h3, h4⟩, rfl⟩ := h1
      refine ⟨e, by simpa using h3, h4, h2.imp id fun h5 => ?_⟩
      have hlt : e.on < ms.length := by
        rcases Nat.lt_or_ge e.on ms.length with h | h
        · exact h
        · rw [List.getD_eq_getElem?_getD, List.getElem?_eq_none h] at h5
          simp at h5
      rw [masks_old l _ _ (by simp; omega), getD_app1 hlt]
      exact h5
  | q :: l, ms, i + 1, o, h, hj => by
    simp only [masks] at hj ⊢
    have := masks_spec (j := j) l (ms ++ [orM ((q.after.toList.filter (Region.binds .any)).map (·.on)) 0 ms]) i o (by simpa using h)
    simp only [List.length_append, List.length_singleton] at this
    exact this (by rw [show ms.length + 1 + i = ms.length + (i + 1) from by omega]; exact hj)
/-- what the check of a region says -/
structure Order (P : Program) (ops : Array Oper) (ms : List Nat) : Prop where
  edge : ∀ (i : Nat) (o : Oper) (e : Edge), ops[i]? = some o → e ∈ o.after → Region.binds .any e = true → e.on < i
  guard : ∀ (i : Nat) (o : Oper) (j : Nat) (want : Bool), ops[i]? = some o → o.guard = some (j, want) → (ms.getD i 0).testBit j = true
  dst : ∀ (i j : Nat) (o q : Oper) (d : Tmp), i < j → ops[i]? = some o → ops[j]? = some q → o.dst = some d → q.dst = some d → False
  pair : ∀ (i j : Nat) (o q : Oper), i < j → ops[i]? = some o → ops[j]? = some q → (ms.getD j 0).testBit i = true ∨ (¬ (spine P o = true ∧ spine P q = true) ∧ looks ops o q = false ∧ looks ops q o = false)
  mask : ∀ (i : Nat) (o : Oper) (j : Nat), ops[i]? = some o → (ms.getD i 0).testBit j = true → ∃ e ∈ o.after, Region.binds .any e = true ∧ (e.on = j ∨ (ms.getD e.on 0).testBit j = true)
section
variable {P : Program} {ops : Array Oper}
theorem lt_of_get {i : Nat} {o : Oper} (h : ops[i]? = some o) : i < ops.size := by
  rcases Nat.lt_or_ge i ops.size with h1 | h1
  · exact h1
  · rw [Array.getElem?_eq_none h1] at h; cases h
theorem order_of {ms : List Nat} (hm : ms = masks ops.toList []) (h : drawOK P ops ms = true) : Order P ops ms := by
  have h1 := allIdx_spec h
  have one : ∀ i o, ops[i]? = some o → (o.after.all fun e => !Region.binds .any e || Nat.blt e.on i) = true ∧ (match o.guard with | some (j, _) => (ms.getD i 0).testBit j | none => true) = true ∧ allIdx (pairOK P ops ms i) i = true := by
    intro i o ho
    have := h1 i (lt_of_get ho)
    simp only [oneOK, ho, Bool.and_eq_true] at this
    exact ⟨this.1.1, this.1.2, this.2⟩
  have two : ∀ i j o q, i < j → ops[i]? = some o → ops[j]? = some q → sameDst o q = false ∧ ((ms.getD j 0).testBit i = true ∨ (¬ (spine P o = true ∧ spine P q = true) ∧ looks ops o q = false ∧ looks ops q o = false)) := by
    intro i j o q hij hi hj
    have := allIdx_spec (one j q hj).2.2 i hij
    simp only [pairOK, hi, hj, Bool.and_eq_true, Bool.or_eq_true, Bool.not_eq_true', Bool.and_eq_false_iff] at this
    refine ⟨this.1, this.2.imp id fun h => ⟨fun hh => ?_, h.1.2, h.2⟩⟩
    rcases h.1.1 with h | h
    · rw [hh.1] at h; cases h
    · rw [hh.2] at h; cases h
  refine ⟨fun i o e ho he hb => ?_, fun i o j want ho hg => ?_, fun i j o q d hij hi hj hd hd' => ?_, fun i j o q hij hi hj => (two i j o q hij hi hj).2, fun i o j ho hj => ?_⟩
  · have := Array.all_eq_true_iff_forall_mem.1 (one i o ho).1 e he
    rw [hb, nblt] at this
    simpa using this
  · have := (one i o ho).2.1
    rw [hg] at this
    exact this
  · have := (two i j o q hij hi hj).1
    simp [sameDst, hd, hd'] at this
  · subst hm
    have := masks_spec (j := j) ops.toList [] i o (by simpa using ho)
    simpa using this (by simpa using hj)
variable {ms : List Nat} (hO : Order P ops ms)
include hO
theorem Order.dst_ne {i j : Nat} {o q : Oper} {d : Tmp} (hi : ops[i]? = some o) (hj : ops[j]? = some q) (hd : o.dst = some d) (hd' : q.dst = some d) : i = j := by
  rcases Nat.lt_trichotomy i j with h | h | h
  · exact (hO.dst i j o q d h hi hj hd hd').elim
  · exact h
  · exact (hO.dst j i q o d h hj hi hd' hd).elim
theorem Order.looks_ordered {i j : Nat} {o q : Oper} {d : Tmp} (hne : i ≠ j) (hi : ops[i]? = some o) (hj : ops[j]? = some q) (hd : q.dst = some d) (ht : d ∈ tmpsOf ops o) : (ms.getD i 0).testBit j = true ∨ (ms.getD j 0).testBit i = true := by
  have hl : looks ops o q = true := by
    simp only [looks, hd, List.any_eq_true]
    exact ⟨d, ht, by simp⟩
  rcases Nat.lt_or_gt_of_ne hne with h | h
  · rcases hO.pair i j o q h hi hj with h1 | h1
    · exact .inr h1
    · rw [h1.2.1] at hl; cases hl
  · rcases hO.pair j i q o h hj hi with h1 | h1
    · exact .inl h1
    · rw [h1.2.2] at hl; cases hl
theorem Order.spine_ordered {i j : Nat} {o q : Oper} (hne : i ≠ j) (hi : ops[i]? = some o) (hj : ops[j]? = some q) (h1 : spine P o = true) (h2 : spine P q = true) : (ms.getD i 0).testBit j = true ∨ (ms.getD j 0).testBit i = true := by
  rcases Nat.lt_or_gt_of_ne hne with h | h
  · rcases hO.pair i j o q h hi hj with h3 | h3
    · exact .inr h3
    · exact (h3.1 ⟨h1, h2⟩).elim
  · rcases hO.pair j i q o h hj hi with h3 | h3
    · exact .inl h3
    · exact (h3.1 ⟨h2, h1⟩).elim
end
end
end Go.Idl

/- The ideal machine, part U: what the ideal order says of each operation. -/
namespace Go.Idl
open Go
noncomputable section

section
variable {P : Program} {ops : Array Oper} {ms : List Nat}
/-- the temporaries that a set of operations writes -/
def In (ops : Array Oper) (D : Nat → Prop) (t : Tmp) : Prop := ∃ j o, D j ∧ ops[j]? = some o ∧ o.dst = some t
abbrev bits (d : Nat) : Nat → Prop := fun i => d.testBit i = true
def Closed (ms : List Nat) (D : Nat → Prop) : Prop := ∀ i j, D i → (ms.getD i 0).testBit j = true → D j
theorem inMask_spec {a b : Nat} (h : inMask a b = true) : ∀ j, a.testBit j = true → b.testBit j = true := by
  intro j hj
  have h1 : a &&& b = a := by simpa [inMask] using h
  rw [← h1, Nat.testBit_and] at hj
  simp only [Bool.and_eq_true] at hj
  exact hj.2
theorem bits_or {d i j : Nat} : bits (d ||| 2 ^ i) j ↔ bits d j ∨ j = i := by
  simp only [bits, Nat.testBit_or, Nat.testBit_two_pow, Bool.or_eq_true, decide_eq_true_eq]
  exact ⟨fun h => h.imp id Eq.symm, fun h => h.imp id Eq.symm⟩
theorem bits_full {n i : Nat} : bits (2 ^ n - 1) i ↔ i < n := by
  simp [bits, Nat.testBit_two_pow_sub_one]
theorem Closed.add {d i : Nat} (h : Closed ms (bits d)) (hi : inMask (ms.getD i 0) d = true) : Closed ms (bits (d ||| 2 ^ i)) := by
  intro x j hx hj
  rw [bits_or] at hx ⊢
  rcases hx with hx | rfl
  · exact .inl (h x j hx hj)
  · exact .inl (inMask_spec hi j hj)
theorem okNeed_cons {sm i d d' : Nat} {l : List Nat} (h : okNeed P ops ms sm (i :: l) d = some d') :
    ∃ o, ops[i]? = some o ∧ spine P o = false ∧ ¬ bits d i ∧ inMask (ms.getD i 0) d = true ∧ bits sm i ∧ okNeed P ops ms sm l (d ||| 2 ^ i) = some d' := by
  simp only [okNeed] at h
  split at h <;> try (cases h; done)
  rename_i o ho
  have : (!spine P o && !d.testBit i && inMask (ms.getD i 0) d && sm.testBit i) = true ∧ okNeed P ops ms sm l (d ||| 2 ^ i) = some d' := by
    cases hb : (!spine P o && !d.testBit i && inMask (ms.getD i 0) d && sm.testBit i) with
    | true => rw [hb] at h; exact ⟨rfl, h⟩
    | false => rw [hb] at h; cases h
  obtain ⟨h1, h2⟩ := this
  simp only [Bool.and_eq_true, Bool.not_eq_true'] at h1
  exact ⟨o, ho, h1.1.1.1, by simp [bits, h1.1.1.2], h1.1.2, h1.2, h2⟩
theorem okNeed_bits {sm : Nat} : ∀ {l : List Nat} {d d' : Nat}, okNeed P ops ms sm l d = some d' → ∀ j, bits d' j ↔ bits d j ∨ j ∈ l
  | [], d, d', h, j => by
    simp only [okNeed, Option.some.injEq] at h
    subst h; simp
  | i :: l, d, d', h, j => by
    obtain ⟨o, _, _, _, _, _, h2⟩ := okNeed_cons h
    rw [okNeed_bits h2 j, bits_or, List.mem_cons]
    constructor
    · rintro ((h | h) | h)
      · exact .inl h
      · exact .inr (.inl h)
      · exact .inr (.inr h)
    · rintro (h | h | h)
      · exact .inl (.inl h)
      · exact .inl (.inr h)
      · exact .inr h
theorem okNeed_closed {sm : Nat} : ∀ {l : List Nat} {d d' : Nat}, okNeed P ops ms sm l d = some d' → Closed ms (bits d) → Closed ms (bits d')
  | [], d, d', h, hc => by
    simp only [okNeed, Option.some.injEq] at h
    subst h; exact hc
  | i :: l, d, d', h, hc => by
    obtain ⟨o, _, _, _, h1, _, h2⟩ := okNeed_cons h
    exact okNeed_closed h2 (hc.add h1)
theorem okNeed_mem {sm : Nat} : ∀ {l : List Nat} {d d' : Nat}, okNeed P ops ms sm l d = some d' → ∀ i ∈ l, (∃ o, ops[i]? = some o ∧ spine P o = false) ∧ ¬ bits d i ∧ bits sm i
  | [], d, d', h, i, hi => by cases hi
  | k :: l, d, d', h, i, hi => by
    obtain ⟨o, h0, h1, h2, h3, h4, h5⟩ := okNeed_cons h
    rcases List.mem_cons.1 hi with rfl | hi
    · exact ⟨⟨o, h0, h1⟩, h2, h4⟩
    · obtain ⟨g1, g2, g3⟩ := okNeed_mem h5 i hi
      exact ⟨g1, fun hh => g2 (bits_or.2 (.inl hh)), g3⟩
theorem okNeed_nodup {sm : Nat} : ∀ {l : List Nat} {d d' : Nat}, okNeed P ops ms sm l d = some d' → l.Nodup
  | [], d, d', h => List.nodup_nil
  | k :: l, d, d', h => by
    obtain ⟨o, h0, h1, h2, h3, h4, h5⟩ := okNeed_cons h
    exact List.nodup_cons.2 ⟨fun hm => (okNeed_mem h5 k hm).2.1 (bits_or.2 (.inr rfl)), okNeed_nodup h5⟩

theorem aeq_eq {a b : Addr} (h : aeq a b = true) : a = b := by
  obtain ⟨b1, o1, s1⟩ := a
  obtain ⟨b2, o2, s2⟩ := b
  simp only [aeq, Bool.and_eq_true] at h
  obtain ⟨⟨h1, h2⟩, h⟩ := h
  cases Nat.eq_of_beq_eq_true h1
  cases Nat.eq_of_beq_eq_true h2
  cases s1 <;> cases s2 <;> simp at h
  · rfl
  · rw [h]
theorem veq1_eq {a b : Value} (h : veq1 a b = true) : a = b := by
  unfold veq1 at h
  split at h
  · simp at h; rw [h]
  · simp at h; rw [h.1, h.2]
  · rename_i s t
    have h1 : s.data = t.data := by simpa using h
    have : s = t := by cases s; cases t; simp only at h1; rw [h1]
    rw [this]
  · rfl
  · rw [aeq_eq h]
  · simp at h; rw [h.1, h.2]
  · simp only [Bool.and_eq_true] at h; rw [aeq_eq h.1.1, Nat.eq_of_beq_eq_true h.1.2, Nat.eq_of_beq_eq_true h.2]
  · rfl
  · simp at h; rw [h]
  · rfl
  · rfl
  · cases h
theorem veqL_eq : ∀ {l m : List Value}, veqL l m = true → l = m
  | [], [], _ => rfl
  | [], _ :: _, h => by cases h
  | _ :: _, [], h => by cases h
  | a :: l, b :: m, h => by
    simp only [veqL, Bool.and_eq_true] at h
    rw [veq1_eq h.1, veqL_eq h.2]
theorem arr_eq {a b : Array Value} (h : a.toList = b.toList) : a = b := by cases a; cases b; simp only at h; rw [h]
theorem veq_eq {a b : Value} (h : veq a b = true) : a = b := by
  unfold veq at h
  split at h
  · rw [arr_eq (veqL_eq h)]
  · rw [arr_eq (veqL_eq h)]
  · simp only [Bool.and_eq_true] at h
    rw [show _ = _ from Nat.eq_of_beq_eq_true h.1.1, arr_eq (veqL_eq h.1.2), arr_eq (veqL_eq h.2)]
  · exact veq1_eq h
theorem allSame_spec {f : Heap → Option Value} {v : Value} : ∀ {l : List Heap}, allSame f v l = true → ∀ τ ∈ l, f τ = some v
  | [], _, τ, h => by cases h
  | σ :: l, h, τ, hm => by
    simp only [allSame, Bool.and_eq_true] at h
    rcases List.mem_cons.1 hm with rfl | hm
    · have h1 := h.1
      split at h1
      · rename_i u hu; rw [hu, veq_eq h1]
      · cases h1
    · exact allSame_spec h.2 τ hm
/-- one step of what comes ahead of a write -/
theorem preD_cons {base i : Nat} {hs : List Heap} {l : List Nat} {a a' : Fr} {obs : List (Nat × AObj)} (h : preD P ops ms base hs (i :: l) a = some (a', obs)) :
    ∃ o v obs' fo, ops[i]? = some o ∧ preD P ops ms base hs l (a.put o.dst v) = some (a', obs') ∧ obs = (match fo with | some ob => (i, ob) :: obs' | none => obs') ∧
      ((wantedA ops a o = false ∧ v = undef ∧ fo = none) ∨ (wantedA ops a o = true ∧
        ((clsOf P o.op = .p ∧ pA P a.ev o = some v ∧ fo = none) ∨
         (clsOf P o.op = .r ∧ (∀ τ ∈ hs.drop (spinesIn P ops (ms.getD i 0)), rA P a.ev τ o = some v) ∧ fo = none) ∨
         (clsOf P o.op = .a ∧ ∃ ob mk, aA P a.ev o = some (ob, mk) ∧ v = mk (base + i) ∧ fo = some ob)))) := by
  simp only [preD] at h
  split at h <;> try (cases h; done)
  rename_i o ho
  cases hw : wantedA ops a o with
  | true =>
    rw [hw] at h
    simp only [cond_true] at h
    split at h
    · rename_i hc
      split at h <;> try (cases h; done)
      rename_i v hv
      exact ⟨o, v, obs, none, ho, h, rfl, .inr ⟨hw, .inl ⟨hc, hv, rfl⟩⟩⟩
    · rename_i hc
      split at h <;> try (cases h; done)
      rename_i τ more hd
      split at h <;> try (cases h; done)
      rename_i v hv
      cases hb : allSame (fun τ => rA P a.ev τ o) v more with
      | true =>
        rw [hb] at h
        simp only [cond_true] at h
        refine ⟨o, v, obs, none, ho, h, rfl, .inr ⟨hw, .inr (.inl ⟨hc, ?_, rfl⟩)⟩⟩
        rw [hd]
        intro τ' hm
        rcases List.mem_cons.1 hm with rfl | hm
        · exact hv
        · exact allSame_spec hb τ' hm
      | false => rw [hb] at h; simp at h
    · rename_i hc
      split at h <;> try (cases h; done)
      rename_i ob mk hv
      split at h <;> try (cases h; done)
      rename_i a2 obs2 h2
      cases h
      exact ⟨o, _, obs2, some ob, ho, h2, rfl, .inr ⟨hw, .inr (.inr ⟨hc, ob, mk, hv, rfl, rfl⟩)⟩⟩
    · cases h
  | false =>
    rw [hw] at h
    simp only [cond_false] at h
    exact ⟨o, undef, obs, none, ho, h, rfl, .inl ⟨hw, rfl, rfl⟩⟩
theorem Fr.get_put (a : Fr) (d : Option Tmp) (v : Value) (t : Tmp) : (a.put d v).tm.get t = if d = some t then some v else a.tm.get t := by
  cases d with
  | none => simp [Fr.put]
  | some d =>
    simp only [Fr.put, T.get_set, Option.some.injEq]
    by_cases h : t = d
    · rw [if_pos h, if_pos h.symm]
    · rw [if_neg h, if_neg (Ne.symm h)]
theorem preD_keeps {base : Nat} {hs : List Heap} {t : Tmp} : ∀ {l : List Nat} {a a' : Fr} {obs : List (Nat × AObj)}, preD P ops ms base hs l a = some (a', obs) →
    (∀ i ∈ l, ∀ o, ops[i]? = some o → o.dst ≠ some t) → a'.tm.get t = a.tm.get t
  | [], a, a', obs, h, _ => by
    simp only [preD, Option.some.injEq, Prod.mk.injEq] at h
    rw [h.1]
  | i :: l, a, a', obs, h, hn => by
    obtain ⟨o, v, obs', fo, ho, h1, _, _⟩ := preD_cons h
    rw [preD_keeps h1 fun j hj => hn j (by simp [hj]), Fr.get_put, if_neg (hn i (by simp) o ho)]
theorem preD_keys {base : Nat} {hs : List Heap} : ∀ {l : List Nat} {a a' : Fr} {obs : List (Nat × AObj)}, preD P ops ms base hs l a = some (a', obs) → ∀ x ∈ obs, x.1 ∈ l
  | [], a, a', obs, h, x, hx => by
    simp only [preD, Option.some.injEq, Prod.mk.injEq] at h
    rw [← h.2] at hx; cases hx
  | i :: l, a, a', obs, h, x, hx => by
    obtain ⟨o, v, obs', fo, ho, h1, h2, _⟩ := preD_cons h
    cases fo with
    | none => simp only at h2; subst h2; exact List.mem_cons_of_mem _ (preD_keys h1 x hx)
    | some ob =>
      simp only at h2; subst h2
      rcases List.mem_cons.1 hx with rfl | hx
      · simp
      · exact List.mem_cons_of_mem _ (preD_keys h1 x hx)
theorem preD_nodup {base : Nat} {hs : List Heap} : ∀ {l : List Nat} {a a' : Fr} {obs : List (Nat × AObj)}, preD P ops ms base hs l a = some (a', obs) → l.Nodup → (obs.map (·.1)).Nodup
  | [], a, a', obs, h, _ => by
    simp only [preD, Option.some.injEq, Prod.mk.injEq] at h
    rw [← h.2]; exact List.nodup_nil
  | i :: l, a, a', obs, h, hn => by
    obtain ⟨o, v, obs', fo, ho, h1, h2, _⟩ := preD_cons h
    obtain ⟨n1, n2⟩ := List.nodup_cons.1 hn
    cases fo with
    | none => simp only at h2; subst h2; exact preD_nodup h1 n2
    | some ob =>
      simp only at h2; subst h2
      rw [List.map_cons]
      refine List.nodup_cons.2 ⟨fun hm => ?_, preD_nodup h1 n2⟩
      obtain ⟨x, hx, he⟩ := List.mem_map.1 hm
      have := preD_keys h1 x hx
      rw [he] at this
      exact n1 this
/-- the frame that the ideal order has when so much is done -/
def FrInv (ops : Array Oper) (a0 a1 : T Value) (D : Nat → Prop) (tm : T Value) : Prop := ∀ t, (In ops D t → tm.get t = a1.get t) ∧ (¬ In ops D t → tm.get t = a0.get t)
/-- what the ideal order says of an operation -/
structure Ahead (P : Program) (ops : Array Oper) (ms : List Nat) (base : Nat) (a0 a1 : T Value) (n : Nat) (rd : Nat → Heap → Prop) (fut : AObj → Prop) (i : Nat) (o : Oper) (ai : Fr) (dc : Nat) (v : Value) (fo : Option AObj) : Prop where
  fr : FrInv ops a0 a1 (bits dc) ai.tm
  cl : Closed ms (bits dc)
  sub : ∀ j, (ms.getD i 0).testBit j = true → bits dc j
  not : ¬ bits dc i
  n : ai.n = n
  dst : ∀ d, o.dst = some d → a1.get d = some v
  fut : ∀ ob, fut ob ↔ fo = some ob
  does : (wantedA ops ai o = false ∧ v = undef ∧ fo = none) ∨ (wantedA ops ai o = true ∧
        ((clsOf P o.op = .p ∧ pA P ai.ev o = some v ∧ fo = none) ∨
         (clsOf P o.op = .r ∧ (∀ τ, rd (spinesIn P ops (ms.getD i 0)) τ → rA P ai.ev τ o = some v) ∧ fo = none) ∨
         (clsOf P o.op = .a ∧ ∃ ob mk, aA P ai.ev o = some (ob, mk) ∧ v = mk (base + i) ∧ fo = some ob)))
theorem In.put {d i : Nat} {o : Oper} {t : Tmp} (ho : ops[i]? = some o) : In ops (bits (d ||| 2 ^ i)) t ↔ In ops (bits d) t ∨ o.dst = some t := by
  constructor
  · rintro ⟨j, q, h1, h2, h3⟩
    rcases bits_or.1 h1 with h1 | rfl
    · exact .inl ⟨j, q, h1, h2, h3⟩
    · rw [ho] at h2; cases h2; exact .inr h3
  · rintro (⟨j, q, h1, h2, h3⟩ | h)
    · exact ⟨j, q, bits_or.2 (.inl h1), h2, h3⟩
    · exact ⟨i, o, bits_or.2 (.inr rfl), ho, h⟩
theorem FrInv.put {a0 a1 : T Value} {d i : Nat} {a : Fr} {o : Oper} {v : Value} (h : FrInv ops a0 a1 (bits d) a.tm) (ho : ops[i]? = some o) (hd : ∀ x, o.dst = some x → a1.get x = some v) :
    FrInv ops a0 a1 (bits (d ||| 2 ^ i)) (a.put o.dst v).tm := by
  intro t
  rw [In.put ho, Fr.get_put]
  by_cases h1 : o.dst = some t
  · rw [if_pos h1]
    exact ⟨fun _ => (hd t h1).symm, fun h2 => (h2 (.inr h1)).elim⟩
  · rw [if_neg h1]
    exact ⟨fun h2 => (h t).1 (h2.resolve_right h1), fun h2 => (h t).2 fun h3 => h2 (.inl h3)⟩
variable (hO : Order P ops ms)
include hO
theorem pre_ahead {base sm : Nat} {hs : List Heap} {a0 a1 : T Value} : ∀ {l : List Nat} {d d' : Nat} {a a' : Fr} {obs : List (Nat × AObj)}, okNeed P ops ms sm l d = some d' → preD P ops ms base hs l a = some (a', obs) →
    FrInv ops a0 a1 (bits d) a.tm → Closed ms (bits d) → (∀ t, In ops (bits d') t → a'.tm.get t = a1.get t) →
    FrInv ops a0 a1 (bits d') a'.tm ∧ ∀ i ∈ l, ∃ o ai dc v fo, ops[i]? = some o ∧ Ahead P ops ms base a0 a1 a.n (fun k τ => τ ∈ hs.drop k) (fun ob => (i, ob) ∈ obs) i o ai dc v fo
  | [], d, d', a, a', obs, hk, hp, hf, hc, hl => by
    simp only [okNeed, Option.some.injEq] at hk
    simp only [preD, Option.some.injEq, Prod.mk.injEq] at hp
    rw [← hk, ← hp.1]
    exact ⟨hf, fun i hi => by cases hi⟩
  | i :: l, d, d', a, a', obs, hk, hp, hf, hc, hl => by
    obtain ⟨o, ho, hsp, hnd, hin, hsm, hk2⟩ := okNeed_cons hk
    obtain ⟨o', v, obs', fo, ho', hp2, hobs, hdo⟩ := preD_cons hp
    rw [ho] at ho'; cases ho'
    have hnl : i ∉ l := (List.nodup_cons.1 (okNeed_nodup hk)).1
    have hdst : ∀ x, o.dst = some x → a1.get x = some v := by
      intro x hx
      rw [← hl x ⟨i, o, (okNeed_bits hk i).2 (.inr (by simp)), ho, hx⟩, preD_keeps hp2, Fr.get_put, if_pos hx]
      intro j hj q hq hqd
      exact hnl ((hO.dst_ne ho hq hx hqd) ▸ hj)
    obtain ⟨g1, g2⟩ := pre_ahead hk2 hp2 (hf.put ho hdst) (hc.add hin) hl
    refine ⟨g1, fun j hj => ?_⟩
    have hkeys := preD_keys hp2
    by_cases hji : j = i
    · subst hji
      refine ⟨o, a, d, v, fo, ho, hf, hc, inMask_spec hin, hnd, rfl, hdst, fun ob => ?_, hdo⟩
      cases fo with
      | none =>
        simp only at hobs; subst hobs
        exact ⟨fun h => (hnl (hkeys _ h)).elim, fun h => by cases h⟩
      | some ob' =>
        simp only at hobs; subst hobs
        constructor
        · intro h
          rcases List.mem_cons.1 h with h | h
          · cases h; rfl
          · exact (hnl (hkeys _ h)).elim
        · intro h; cases h; simp
    · obtain ⟨q, ai, dc, u, fo2, hq, A⟩ := g2 j ((List.mem_cons.1 hj).resolve_left hji)
      refine ⟨q, ai, dc, u, fo2, hq, A.fr, A.cl, A.sub, A.not, A.n.trans (by simp), A.dst, fun ob => ?_, A.does⟩
      rw [← A.fut ob]
      cases fo with
      | none => simp only at hobs; subst hobs; exact Iff.rfl
      | some ob' =>
        simp only at hobs; subst hobs
        simp [hji]
end
end
end Go.Idl

/- The ideal machine, part V: the stages of a region. -/
namespace Go.Idl
open Go
noncomputable section

section
variable {P : Program} {R : Callee} {ops : Array Oper} {ms : List Nat} {base : Nat}
theorem mem_drop_of {hs : List Heap} {k x : Nat} {τ : Heap} (hx : k ≤ x) (h : hs[x]? = some τ) : τ ∈ hs.drop k :=
  List.mem_of_getElem? (i := x - k) (by rw [List.getElem?_drop, Nat.add_sub_cancel' hx]; exact h)
theorem stagesD_cons {need : List Nat} {s : Nat} {rest : List (List Nat × Nat)} {tail : List Nat} {a a1 : Fr} {σ σ1 : Heap} {hs : List Heap} (h : stagesD P R ops ms base ((need, s) :: rest) tail a σ hs = some (a1, σ1)) :
    ∃ a' obs o v σ', preD P ops ms base hs need a = some (a', obs) ∧ ops[s]? = some o ∧
      ((wantedA ops a' o = true ∧ stepD P R a'.ev (puts base obs σ) o = some (v, σ')) ∨ (wantedA ops a' o = false ∧ v = undef ∧ σ' = puts base obs σ)) ∧
      stagesD P R ops ms base rest tail (a'.put o.dst v) σ' (hs ++ [σ']) = some (a1, σ1) := by
  simp only [stagesD] at h
  split at h <;> try (cases h; done)
  rename_i a' obs h1
  split at h <;> try (cases h; done)
  rename_i o ho
  cases hw : wantedA ops a' o with
  | true =>
    rw [hw] at h
    simp only [cond_true] at h
    split at h <;> try (cases h; done)
    rename_i v σ' hst
    exact ⟨a', obs, o, v, σ', h1, ho, .inl ⟨hw, hst⟩, h⟩
  | false =>
    rw [hw] at h
    simp only [cond_false] at h
    exact ⟨a', obs, o, undef, _, h1, ho, .inr ⟨hw, rfl, rfl⟩, h⟩
theorem okStages_cons {need : List Nat} {s d : Nat} {rest : List (List Nat × Nat)} {tail : List Nat} (h : okStages P ops ms ((need, s) :: rest) tail d = true) :
    ∃ o d', ops[s]? = some o ∧ okNeed P ops ms (ms.getD s 0) need d = some d' ∧ spine P o = true ∧ ¬ bits d' s ∧ inMask (ms.getD s 0) d' = true ∧ okStages P ops ms rest tail (d' ||| 2 ^ s) = true := by
  simp only [okStages] at h
  split at h <;> try (cases h; done)
  rename_i o ho
  split at h <;> try (cases h; done)
  rename_i d' hd
  simp only [Bool.and_eq_true, Bool.not_eq_true'] at h
  exact ⟨o, d', ho, hd, h.1.1.1, by simp [bits, h.1.1.2], h.1.2, h.2⟩
theorem okStages_nil {d : Nat} {tail : List Nat} (h : okStages P ops ms [] tail d = true) : ∃ d', okNeed P ops ms (2 ^ ops.size - 1) tail d = some d' ∧ d' = 2 ^ ops.size - 1 := by
  simp only [okStages] at h
  split at h <;> try (cases h; done)
  rename_i d' hd
  exact ⟨d', hd, by simpa using h⟩
/-- the object that an allocation lays, in what is still to come -/
def Fut (P : Program) (R : Callee) (ops : Array Oper) (ms : List Nat) (base i : Nat) (ob : AObj) : List (List Nat × Nat) → List Nat → Fr → Heap → List Heap → Prop
  | [], tail, a, _, hs => ∃ a' obs, preD P ops ms base hs tail a = some (a', obs) ∧ (i, ob) ∈ obs
  | (need, s) :: rest, tail, a, σ, hs => ∃ a' obs o v σ', preD P ops ms base hs need a = some (a', obs) ∧ ops[s]? = some o ∧
      ((wantedA ops a' o = true ∧ stepD P R a'.ev (puts base obs σ) o = some (v, σ')) ∨ (wantedA ops a' o = false ∧ v = undef ∧ σ' = puts base obs σ)) ∧
      ((i, ob) ∈ obs ∨ (i ∉ need ∧ Fut P R ops ms base i ob rest tail (a'.put o.dst v) σ' (hs ++ [σ'])))
theorem Fut.nil {i : Nat} {ob : AObj} {tail : List Nat} {a a' : Fr} {σ : Heap} {hs : List Heap} {obs : List (Nat × AObj)} (h : preD P ops ms base hs tail a = some (a', obs)) :
    Fut P R ops ms base i ob [] tail a σ hs ↔ (i, ob) ∈ obs := by
  constructor
  · rintro ⟨a2, obs2, h1, h2⟩
    rw [h] at h1; cases h1; exact h2
  · exact fun h2 => ⟨_, _, h, h2⟩
theorem Fut.cons {i s : Nat} {ob : AObj} {need tail : List Nat} {rest : List (List Nat × Nat)} {a a' : Fr} {σ σ' : Heap} {hs : List Heap} {obs : List (Nat × AObj)} {o : Oper} {v : Value}
    (h : preD P ops ms base hs need a = some (a', obs)) (ho : ops[s]? = some o)
    (hst : (wantedA ops a' o = true ∧ stepD P R a'.ev (puts base obs σ) o = some (v, σ')) ∨ (wantedA ops a' o = false ∧ v = undef ∧ σ' = puts base obs σ)) :
    Fut P R ops ms base i ob ((need, s) :: rest) tail a σ hs ↔ (i, ob) ∈ obs ∨ (i ∉ need ∧ Fut P R ops ms base i ob rest tail (a'.put o.dst v) σ' (hs ++ [σ'])) := by
  constructor
  · rintro ⟨a2, obs2, o2, v2, σ2, h1, h2, h3, h4⟩
    rw [h] at h1; cases h1
    rw [ho] at h2; cases h2
    rcases hst with ⟨w1, s1⟩ | ⟨w1, rfl, rfl⟩
    · rcases h3 with ⟨w2, s2⟩ | ⟨w2, _⟩
      · rw [s1] at s2; cases s2; exact h4
      · rw [w1] at w2; cases w2
    · rcases h3 with ⟨w2, s2⟩ | ⟨w2, rfl, rfl⟩
      · rw [w1] at w2; cases w2
      · exact h4
  · exact fun h4 => ⟨_, _, _, _, _, h, ho, hst, h4⟩
variable (hO : Order P ops ms)
include hO
theorem stages_keeps {t : Tmp} : ∀ {st : List (List Nat × Nat)} {tail : List Nat} {a a1 : Fr} {σ σ1 : Heap} {hs : List Heap} {d : Nat}, okStages P ops ms st tail d = true →
    stagesD P R ops ms base st tail a σ hs = some (a1, σ1) → In ops (bits d) t → a1.tm.get t = a.tm.get t
  | [], tail, a, a1, σ, σ1, hs, d, hk, h, ⟨j, q, h1, h2, h3⟩ => by
    obtain ⟨d', hk1, _⟩ := okStages_nil hk
    simp only [stagesD] at h
    split at h <;> try (cases h; done)
    rename_i a' obs hp
    cases h
    refine preD_keeps hp fun i hi o ho hd => ?_
    have := hO.dst_ne h2 ho h3 hd
    subst this
    exact (okNeed_mem hk1 j hi).2.1 h1
  | (need, s) :: rest, tail, a, a1, σ, σ1, hs, d, hk, h, ⟨j, q, h1, h2, h3⟩ => by
    obtain ⟨o, d', ho, hk1, hsp, hns, hin, hk2⟩ := okStages_cons hk
    obtain ⟨a', obs, o', v, σ', hp, ho', _, hr⟩ := stagesD_cons h
    rw [ho] at ho'; cases ho'
    have hjd' : bits d' j := (okNeed_bits hk1 j).2 (.inl h1)
    rw [stages_keeps hk2 hr ⟨j, q, bits_or.2 (.inl hjd'), h2, h3⟩, Fr.get_put, if_neg ?_]
    · refine preD_keeps hp fun i hi o2 ho2 hd => ?_
      have := hO.dst_ne h2 ho2 h3 hd
      subst this
      exact (okNeed_mem hk1 j hi).2.1 h1
    · intro hd
      have := hO.dst_ne h2 ho h3 hd
      subst this
      exact hns hjd'
/-- one stage -/
theorem stage_ahead {need tail : List Nat} {s d : Nat} {rest : List (List Nat × Nat)} {a a1 : Fr} {σ σ1 : Heap} {hs : List Heap} {a0 : T Value} (hk : okStages P ops ms ((need, s) :: rest) tail d = true)
    (h : stagesD P R ops ms base ((need, s) :: rest) tail a σ hs = some (a1, σ1)) (hf : FrInv ops a0 a1.tm (bits d) a.tm) (hc : Closed ms (bits d)) :
    ∃ a' obs o v σ' d', preD P ops ms base hs need a = some (a', obs) ∧ ops[s]? = some o ∧ okNeed P ops ms (ms.getD s 0) need d = some d' ∧
      ((wantedA ops a' o = true ∧ stepD P R a'.ev (puts base obs σ) o = some (v, σ')) ∨ (wantedA ops a' o = false ∧ v = undef ∧ σ' = puts base obs σ)) ∧
      stagesD P R ops ms base rest tail (a'.put o.dst v) σ' (hs ++ [σ']) = some (a1, σ1) ∧ okStages P ops ms rest tail (d' ||| 2 ^ s) = true ∧ spine P o = true ∧ ¬ bits d' s ∧ inMask (ms.getD s 0) d' = true ∧
      FrInv ops a0 a1.tm (bits d') a'.tm ∧ Closed ms (bits d') ∧ FrInv ops a0 a1.tm (bits (d' ||| 2 ^ s)) (a'.put o.dst v).tm ∧ Closed ms (bits (d' ||| 2 ^ s)) ∧ (∀ x, o.dst = some x → a1.tm.get x = some v) ∧
      (∀ i ∈ need, ∃ q ai dc u fo, ops[i]? = some q ∧ Ahead P ops ms base a0 a1.tm a.n (fun k τ => τ ∈ hs.drop k) (fun ob => (i, ob) ∈ obs) i q ai dc u fo) := by
  obtain ⟨o, d', ho, hk1, hsp, hns, hin, hk2⟩ := okStages_cons hk
  obtain ⟨a', obs, o', v, σ', hp, ho', hst, hr⟩ := stagesD_cons h
  rw [ho] at ho'; cases ho'
  have hdst : ∀ x, o.dst = some x → a1.tm.get x = some v := by
    intro x hx
    rw [stages_keeps hO hk2 hr ⟨s, o, bits_or.2 (.inr rfl), ho, hx⟩, Fr.get_put, if_pos hx]
  have hl : ∀ t, In ops (bits d') t → a'.tm.get t = a1.tm.get t := by
    rintro t ⟨j, q, h1, h2, h3⟩
    rw [stages_keeps hO hk2 hr ⟨j, q, bits_or.2 (.inl h1), h2, h3⟩, Fr.get_put, if_neg]
    intro hd
    have := hO.dst_ne h2 ho h3 hd
    subst this
    exact hns h1
  obtain ⟨g1, g2⟩ := pre_ahead hO hk1 hp hf hc hl
  have hc' := okNeed_closed hk1 hc
  exact ⟨a', obs, o, v, σ', d', hp, ho, hk1, hst, hr, hk2, hsp, hns, hin, g1, hc', g1.put ho hdst, hc'.add hin, hdst, g2⟩
theorem stages_ahead {a0 : T Value} : ∀ {st : List (List Nat × Nat)} {tail : List Nat} {a a1 : Fr} {σ σ1 : Heap} {hs : List Heap} {d : Nat}, okStages P ops ms st tail d = true →
    stagesD P R ops ms base st tail a σ hs = some (a1, σ1) → FrInv ops a0 a1.tm (bits d) a.tm → Closed ms (bits d) →
    ∀ i o, ops[i]? = some o → spine P o = false → ¬ bits d i → ∃ ai dc v fo, Ahead P ops ms base a0 a1.tm a.n (fun k τ => ∃ x, k ≤ x ∧ hs[x]? = some τ) (fun ob => Fut P R ops ms base i ob st tail a σ hs) i o ai dc v fo
  | [], tail, a, a1, σ, σ1, hs, d, hk, h, hf, hc, i, o, ho, hs0, hid => by
    obtain ⟨d', hk1, hd'⟩ := okStages_nil hk
    simp only [stagesD] at h
    split at h <;> try (cases h; done)
    rename_i a' obs hp
    cases h
    obtain ⟨_, g2⟩ := pre_ahead hO hk1 hp hf hc (fun _ _ => rfl)
    have him : i ∈ tail := by
      have : bits d' i := by rw [hd', bits_full]; exact lt_of_get ho
      exact ((okNeed_bits hk1 i).1 this).resolve_left hid
    obtain ⟨o', ai, dc, v, fo, ho', A⟩ := g2 i him
    rw [ho] at ho'; cases ho'
    refine ⟨ai, dc, v, fo, A.fr, A.cl, A.sub, A.not, A.n, A.dst, fun ob => (Fut.nil hp).trans (A.fut ob), A.does.imp id fun ⟨w, x⟩ => ⟨w, x.imp id (.imp (fun ⟨y1, y2, y3⟩ => ⟨y1, fun τ ⟨x, hx, hxx⟩ => y2 τ ?_, y3⟩) id)⟩⟩
    exact mem_drop_of hx hxx
  | (need, s) :: rest, tail, a, a1, σ, σ1, hs, d, hk, h, hf, hc, i, o, ho, hs0, hid => by
    obtain ⟨a', obs, q, v, σ', d', hp, hq, hk1, hst, hr, hk2, hsp, hns, hin, f1, c1, f2, c2, hdst, hnd⟩ := stage_ahead hO hk h hf hc
    by_cases him : i ∈ need
    · obtain ⟨o', ai, dc, v, fo, ho', A⟩ := hnd i him
      rw [ho] at ho'; cases ho'
      refine ⟨ai, dc, v, fo, A.fr, A.cl, A.sub, A.not, A.n, A.dst, fun ob => ?_, A.does.imp id fun ⟨w, x⟩ => ⟨w, x.imp id (.imp (fun ⟨y1, y2, y3⟩ => ⟨y1, fun τ ⟨x, hx, hxx⟩ => y2 τ ?_, y3⟩) id)⟩⟩
      · rw [Fut.cons hp hq hst, ← A.fut ob]
        exact ⟨fun h => h.resolve_right fun h => h.1 him, .inl⟩
      · exact mem_drop_of hx hxx
    · have hid2 : ¬ bits (d' ||| 2 ^ s) i := by
        rw [bits_or, okNeed_bits hk1 i]
        rintro ((h | h) | rfl)
        · exact hid h
        · exact him h
        · rw [ho] at hq; cases hq; rw [hs0] at hsp; cases hsp
      obtain ⟨ai, dc, v2, fo, A⟩ := stages_ahead hk2 hr f2 c2 i o ho hs0 hid2
      refine ⟨ai, dc, v2, fo, A.fr, A.cl, A.sub, A.not, A.n.trans ?_, A.dst, fun ob => ?_, A.does.imp id fun ⟨w, x⟩ => ⟨w, x.imp id (.imp (fun ⟨y1, y2, y3⟩ => ⟨y1, fun τ ⟨x, hx, hxx⟩ => y2 τ ⟨x, hx, ?_⟩, y3⟩) id)⟩⟩
      · rw [Fr.n_put]; exact preD_n _ _ _ _ hp
      · rw [Fut.cons hp hq hst, ← A.fut ob]
        exact ⟨fun h => (h.resolve_left fun h => him (preD_keys hp _ h)).2, fun h => .inr ⟨him, h⟩⟩
      · rw [List.getElem?_append_left]
        · exact hxx
        · rcases Nat.lt_or_ge x hs.length with h | h
          · exact h
          · rw [List.getElem?_eq_none h] at hxx; cases hxx
end
end
end Go.Idl

/- The ideal machine, part W: blocks that are laid before their objects are. -/
namespace Go.Idl
open Go
noncomputable section

/-- the same blocks, be they held for writing or not -/
def Inj.sim (ι ι' : Inj) : Prop := ∀ b l, ι b = some l → ∃ l', ι' b = some l' ∧ l'.blk = l.blk ∧ l'.base = l.base ∧ l'.csz = l.csz
theorem Inj.sim.refl (ι : Inj) : ι.sim ι := fun _ l h => ⟨l, h, rfl, rfl, rfl⟩
theorem Inj.sim.trans {ι ι' ι'' : Inj} (h : ι.sim ι') (h' : ι'.sim ι'') : ι.sim ι'' := fun b l hb =>
  let ⟨l', e, x, y, z⟩ := h b l hb
  let ⟨l'', e', x', y', z'⟩ := h' b l' e
  ⟨l'', e', x'.trans x, y'.trans y, z'.trans z⟩
theorem FnRel.sim {ι ι' : Inj} (h : ι.sim ι') {f g : Fn} (r : FnRel ι f g) : FnRel ι' f g := by
  cases r with
  | func f => exact .func f
  | yield hb =>
    obtain ⟨l', h1, h2, _⟩ := h _ _ hb
    rw [← h2]; exact .yield h1
theorem VRel.sim {ι ι' : Inj} (h : ι.sim ι') {v v' : Value} (r : VRel ι v v') : VRel ι' v v' := by
  induction r with
  | bool b => exact .bool b
  | int k n => exact .int k n
  | string s => exact .string s
  | nilptr => exact .nilptr
  | ptr hb =>
    obtain ⟨l', h1, h2, h3, _⟩ := h _ _ hb
    rw [← h2, ← h3]; exact .ptr h1
  | nilslice len cap => exact .nilslice len cap
  | slice len cap hb =>
    obtain ⟨l', h1, h2, h3, _⟩ := h _ _ hb
    rw [← h2, ← h3]; exact .slice len cap h1
  | open_ len cap cap' hb hc hs =>
    obtain ⟨l', h1, h2, h3, h4⟩ := h _ _ hb
    rw [← h3, ← h4] at hs
    rw [← h2, ← h3]; exact .open_ len cap cap' h1 hc hs
  | zero p hb =>
    obtain ⟨l', h1, _⟩ := h _ _ hb
    exact .zero p h1
  | nilmap => exact .nilmap
  | map hb =>
    obtain ⟨l', h1, h2, _⟩ := h _ _ hb
    rw [← h2]; exact .map h1
  | nilFunc => exact .nilFunc
  | nilIface => exact .nilIface
  | iface t _ ih => exact .iface t ih
  | func hf h1 _ h3 _ ih1 ih2 => exact .func (hf.sim h) h1 ih1 h3 ih2
  | agg h1 _ ih => exact .agg h1 ih
  | tuple h1 _ ih => exact .tuple h1 ih
theorem ObjAt.sim {ι ι' : Inj} {w : World} {o : AObj} {l : Loc} (h : ι.sim ι') (x : ObjAt ι o l w) : ObjAt ι' o l w := by
  cases o with
  | row r =>
    obtain ⟨h1, ⟨c, e, fr, g1, g2, g3, g4, g5⟩⟩ := x
    refine ⟨h1, ⟨c, e, fr, g1, g2, g3, g4, fun i hi => ?_⟩⟩
    obtain ⟨v, v', k1, k2, k3⟩ := g5 i hi
    exact ⟨v, v', k1, k2, k3.sim h⟩
  | map es =>
    obtain ⟨h1, es', clock, g1, g2, g3⟩ := x
    exact ⟨h1, es', clock, g1, g2, fun i a b e1 e2 => ⟨(g3 i a b e1 e2).1.sim h, (g3 i a b e1 e2).2.sim h⟩⟩
  | loop a =>
    obtain ⟨h1, r, g1, g2⟩ := x
    exact ⟨h1, r, g1, g2.n, fun i => (g2.tm i).sim h, g2.params, g2.assign, g2.body, g2.state, g2.pending⟩
  | dead => exact x
def Inj.turn (ι : Inj) (b : Nat) (l : Loc) : Inj := { map := fun c => if c = b then some l else ι c, top := ι.top }
theorem Inj.turn_same (ι : Inj) (b : Nat) (l : Loc) : ι.turn b l b = some l := by simp [Inj.turn]
theorem Inj.turn_ne (ι : Inj) {b c : Nat} (l : Loc) (h : c ≠ b) : ι.turn b l c = ι c := by simp [Inj.turn, h]
theorem Inj.le.sim {ι ι' : Inj} (h : ι.le ι') : ι.sim ι' := fun b l hb => ⟨l, h b l hb, rfl, rfl, rfl⟩
section
variable {ι : Inj} {σ : Heap} {w : World}
theorem kin_put {b x y : Nat} {ob : AObj} (hx : x ≠ b) (hy : y ≠ b) (h : kin σ x y) : kin (σ.put b ob) x y := by
  obtain ⟨r, s, g1, g2, g3⟩ := h
  exact ⟨r, s, by rw [Heap.obj_put, if_neg hx]; exact g1, by rw [Heap.obj_put, if_neg hy]; exact g2, g3⟩
theorem Rel.flip (h : Rel ι σ w) {b B z : Nat} {ob : AObj} (hb : ι b = some ⟨B, 0, z, true⟩) (hu : ∀ c m, ι c = some m → m.blk = B → c = b) (ho : ObjAt ι ob ⟨B, 0, z, false⟩ w) :
    ι.sim (ι.turn b ⟨B, 0, z, false⟩) ∧ Rel (ι.turn b ⟨B, 0, z, false⟩) (σ.put b ob) w := by
  have hs : ι.sim (ι.turn b ⟨B, 0, z, false⟩) := by
    intro c l hc
    by_cases hcb : c = b
    · subst hcb
      rw [hb] at hc; cases hc
      exact ⟨_, Inj.turn_same _ _ _, rfl, rfl, rfl⟩
    · exact ⟨l, by rw [Inj.turn_ne _ _ hcb]; exact hc, rfl, rfl, rfl⟩
  refine ⟨hs, fun c l hc => ?_, fun c hc => ?_, fun c hc => ?_, fun x y l m hne hx hy hl hm he => ?_, by simpa [Inj.turn] using h.top⟩
  · rw [Heap.next_put]
    by_cases hcb : c = b
    · subst hcb
      rw [Inj.turn_same] at hc; cases hc
      have := h.dom c _ hb
      exact ⟨this.1, this.2⟩
    · rw [Inj.turn_ne _ _ hcb] at hc
      exact h.dom c l hc
  · rw [Heap.next_put] at hc
    have := (h.dom b _ hb).1
    rw [Heap.obj_put, if_neg (by omega)]; exact h.fresh c hc
  · by_cases hcb : c = b
    · subst hcb
      rw [Heap.obj_put, if_pos rfl]
      exact ⟨_, Inj.turn_same _ _ _, ho.sim hs⟩
    · rw [Heap.obj_put, if_neg hcb] at hc ⊢
      obtain ⟨l, hl, hob⟩ := h.at_ c hc
      exact ⟨l, by rw [Inj.turn_ne _ _ hcb]; exact hl, hob.sim hs⟩
  · by_cases hxb : x = b
    · subst hxb
      rw [Inj.turn_same] at hl; cases hl
      rw [Inj.turn_ne _ _ (Ne.symm hne)] at hm
      exact (hne (hu y m hm he.symm).symm).elim
    · by_cases hyb : y = b
      · subst hyb
        rw [Inj.turn_same] at hm; cases hm
        rw [Inj.turn_ne _ _ hne] at hl
        exact (hne (hu x l hl he)).elim
      · rw [Heap.obj_put, if_neg hxb] at hx
        rw [Heap.obj_put, if_neg hyb] at hy
        rw [Inj.turn_ne _ _ hxb] at hl
        rw [Inj.turn_ne _ _ hyb] at hm
        exact (h.sep x y l m hne hx hy hl hm he).imp id (kin_put hxb hyb)
/-- the objects are laid, whose blocks have been laid before -/
theorem Rel.flips {base : Nat} : ∀ {obs : List (Nat × AObj)} {ι : Inj} {σ : Heap}, Rel ι σ w → (obs.map (·.1)).Nodup →
    (∀ i ob, (i, ob) ∈ obs → ∃ B z, ι (base + i) = some ⟨B, 0, z, true⟩ ∧ (∀ c m, ι c = some m → m.blk = B → c = base + i) ∧ ObjAt ι ob ⟨B, 0, z, false⟩ w) →
    ∃ ι', ι.sim ι' ∧ Rel ι' (puts base obs σ) w ∧ ι'.top = ι.top ∧
      (∀ c l, ι' c = some l → (ι c = some l ∧ ∀ x ∈ obs, c ≠ base + x.1) ∨ (l.ro = false ∧ (∃ x ∈ obs, c = base + x.1) ∧ ∃ l0, ι c = some l0 ∧ l0.blk = l.blk)) ∧
      (∀ c, (∀ x ∈ obs, c ≠ base + x.1) → ι' c = ι c)
  | [], ι, σ, h, _, _ => ⟨ι, .refl _, h, rfl, fun c l hc => .inl ⟨hc, fun x hx => by cases hx⟩, fun _ _ => rfl⟩
  | (i, ob) :: obs, ι, σ, h, hn, hall => by
    obtain ⟨n1, n2⟩ := List.nodup_cons.1 (by rw [List.map_cons] at hn; exact hn)
    obtain ⟨B, z, h1, h2, h3⟩ := hall i ob (by simp)
    obtain ⟨s1, r1⟩ := h.flip h1 h2 h3
    have hne : ∀ j ob', (j, ob') ∈ obs → base + j ≠ base + i := by
      intro j ob' hj hh
      have : j = i := by omega
      subst this
      exact n1 (by simpa using ⟨ob', hj⟩)
    obtain ⟨ι', s2, r2, t2, bk, same⟩ := Rel.flips (obs := obs) r1 n2 (fun j ob' hj => by
      obtain ⟨B', z', k1, k2, k3⟩ := hall j ob' (by simp [hj])
      refine ⟨B', z', by rw [Inj.turn_ne _ _ (hne j ob' hj)]; exact k1, fun c m hc hm => ?_, k3.sim s1⟩
      by_cases hcb : c = base + i
      · subst hcb
        rw [Inj.turn_same] at hc; cases hc
        exact k2 _ _ h1 hm
      · rw [Inj.turn_ne _ _ hcb] at hc
        exact k2 c m hc hm)
    refine ⟨ι', s1.trans s2, r2, t2, fun c l hc => ?_, fun c hc => ?_⟩
    · by_cases hcb : c = base + i
      · subst hcb
        rcases bk _ l hc with ⟨g1, g2⟩ | ⟨g1, g2, l0, g3, g4⟩
        · rw [Inj.turn_same] at g1; cases g1
          exact .inr ⟨rfl, ⟨(i, ob), by simp, rfl⟩, _, h1, rfl⟩
        · rw [Inj.turn_same] at g3; cases g3
          exact .inr ⟨g1, ⟨(i, ob), by simp, rfl⟩, _, h1, g4⟩
      · rcases bk c l hc with ⟨g1, g2⟩ | ⟨g1, ⟨x, hx, he⟩, l0, g3, g4⟩
        · rw [Inj.turn_ne _ _ hcb] at g1
          refine .inl ⟨g1, fun x hx => ?_⟩
          rcases List.mem_cons.1 hx with rfl | hx
          · exact hcb
          · exact g2 x hx
        · rw [Inj.turn_ne _ _ hcb] at g3
          exact .inr ⟨g1, ⟨x, by simp [hx], he⟩, l0, g3, g4⟩
    · rw [same c (fun x hx => hc x (by simp [hx])), Inj.turn_ne _ _ (hc (i, ob) (by simp))]
theorem Rel.hold (h : Rel ι σ w) {b : Nat} (hn : ι b = none) (hb : b < σ.next) (z : Nat) (o' : Obj) :
    ι.le (ι.turn b ⟨w.heap.size, 0, z, true⟩) ∧ Rel (ι.turn b ⟨w.heap.size, 0, z, true⟩) σ (w.alloc o') := by
  have hle : ι.le (ι.turn b ⟨w.heap.size, 0, z, true⟩) := by
    intro c l hc
    have : c ≠ b := fun hh => by rw [hh, hn] at hc; cases hc
    rw [Inj.turn_ne _ _ this]; exact hc
  have hp := (h.push o').1
  have hdead : ∀ c, (σ.obj c).live = true → c ≠ b := by
    intro c hc hh
    obtain ⟨l, hl, _⟩ := h.at_ c hc
    rw [hh, hn] at hl; cases hl
  refine ⟨hle, fun c l hc => ?_, h.fresh, fun c hc => ?_, fun x y l m hne hx hy hl hm he => ?_, h.top⟩
  · by_cases hcb : c = b
    · subst hcb
      rw [Inj.turn_same] at hc; cases hc
      exact ⟨hb, by simp⟩
    · rw [Inj.turn_ne _ _ hcb] at hc
      exact hp.dom c l hc
  · obtain ⟨l, hl, hob⟩ := hp.at_ c hc
    exact ⟨l, hle c l hl, hob.sim hle.sim⟩
  · rw [Inj.turn_ne _ _ (hdead x hx)] at hl
    rw [Inj.turn_ne _ _ (hdead y hy)] at hm
    exact h.sep x y l m hne hx hy hl hm he
def Inj.rise (ι : Inj) (n : Nat) : Inj := { map := ι.map, top := ι.top + n }
theorem Inj.le_rise (ι : Inj) (n : Nat) : ι.le (ι.rise n) := fun _ _ h => h
theorem Rel.held (h : Rel ι σ w) (n : Nat) : Rel (ι.rise n) (heldH σ n) w := by
  refine ⟨fun c l hc => ?_, fun c hc => ?_, fun c hc => ?_, h.sep, by simp [Inj.rise, heldH, h.top]⟩
  · have := h.dom c l hc
    exact ⟨by simp only [heldH]; omega, this.2⟩
  · exact h.fresh c (by simp only [heldH] at hc; omega)
  · obtain ⟨l, hl, ho⟩ := h.at_ c hc
    exact ⟨l, hl, ho.sim (Inj.le_rise ι n).sim⟩
end
end
end Go.Idl

/- The ideal machine, part X: regions that draw their order. -/
namespace Go.Idl
open Go
noncomputable section

theorem countIdx_mono {f g : Nat → Bool} : ∀ n, (∀ i, i < n → f i = true → g i = true) → countIdx f n ≤ countIdx g n
  | 0, _ => Nat.le_refl _
  | n + 1, h => by
    have ih := countIdx_mono n fun i hi => h i (by omega)
    simp only [countIdx]
    cases hf : f n with
    | true => rw [h n (by omega) hf]; simp only [cond_true]; omega
    | false => cases g n <;> simp only [cond_true, cond_false] <;> omega
theorem countIdx_upd {f g : Nat → Bool} {i : Nat} : ∀ n, i < n → f i = false → g i = true → (∀ j, j < n → j ≠ i → g j = f j) → countIdx g n = countIdx f n + 1
  | 0, h, _, _, _ => by omega
  | n + 1, h, hf, hg, hj => by
    simp only [countIdx]
    by_cases hin : i = n
    · subst hin
      have : countIdx g i = countIdx f i := Nat.le_antisymm (countIdx_mono i fun j hj' h => by rw [← hj j (by omega) (by omega)]; exact h) (countIdx_mono i fun j hj' h => by rw [hj j (by omega) (by omega)]; exact h)
      rw [hf, hg, this]; simp only [cond_true, cond_false]; omega
    · rw [countIdx_upd n (by omega) hf hg fun j hj' => hj j (by omega), hj n (by omega) (fun h => hin h.symm)]
      omega
theorem countIdx_zero {f : Nat → Bool} : ∀ n, countIdx f n = 0 → ∀ i, i < n → f i = false
  | 0, _, i, hi => by omega
  | n + 1, h, i, hi => by
    simp only [countIdx] at h
    by_cases hin : i = n
    · subst hin
      cases hf : f i with
      | true => rw [hf] at h; simp at h
      | false => rfl
    · exact countIdx_zero n (by omega) i (by omega)
def isSpine (P : Program) (ops : Array Oper) (i : Nat) : Bool := match ops[i]? with | some o => spine P o | none => false
def spinesDone (P : Program) (ops : Array Oper) (d : Nat) : Nat := countIdx (fun i => d.testBit i && isSpine P ops i) ops.size
section
variable {P : Program} {R : Callee} {ops : Array Oper} {ms : List Nat}
structure Inv (P : Program) (R : Callee) (ops : Array Oper) (ms : List Nat) (a0 : T Value) (n0 base : Nat) (ι0 : Inj) (w0 : World) (df : List Deferred) (a1 : Fr) (σ1 : Heap)
    (st : List (List Nat × Nat)) (tail : List Nat) (a : Fr) (σ : Heap) (hs : List Heap) (d : Nat) (D : Nat → Prop) (ι : Inj) (A : Act) (w : World) : Prop where
  ok : okStages P ops ms st tail d = true
  run : stagesD P R ops ms base st tail a σ hs = some (a1, σ1)
  frd : FrInv ops a0 a1.tm (bits d) a.tm
  cld : Closed ms (bits d)
  an : a.n = n0
  sub : ∀ i, bits d i → D i
  early : ∀ i o, D i → ops[i]? = some o → spine P o = true → bits d i
  clD : Closed ms D
  last : hs[spinesDone P ops d]? = some σ
  len : hs.length = spinesDone P ops d + 1
  tmD : ∀ t, In ops D t → VRel ι ((a1.tm.get t).getD undef) (A.tmps.getD t undef)
  tm0 : ∀ t, ¬ In ops D t → VRel ι ((a0.get t).getD undef) (A.tmps.getD t undef)
  size : A.tmps.size = n0
  df : A.defers = df
  rel : Rel ι σ w
  le : ι0.le ι
  wsize : w0.heap.size ≤ w.heap.size
  old : ∀ B, B < w0.heap.size → Unm ι0 B → w.heap[B]? = w0.heap[B]? ∧ Unm ι B
  os : w.os = w0.os
  output : w.output = w0.output
  tape : w.tape = w0.tape
  top0 : ι0.top = base
  low : ∀ b l, ι0 b = some l → b < base
  top : base + ops.size ≤ ι.top
  res : ∀ i, i < ops.size → ¬ D i → ι (base + i) = none
  more : ∀ b l, ι b = some l → ι0 b = some l ∨ (base ≤ b ∧ (l.ro = false ∨ ∃ i ob, b = base + i ∧ D i ∧ ¬ bits d i ∧ Fut P R ops ms base i ob st tail a σ hs))
  pend : ∀ i ob, D i → ¬ bits d i → Fut P R ops ms base i ob st tail a σ hs →
    ∃ B z, ι (base + i) = some ⟨B, 0, z, true⟩ ∧ w0.heap.size ≤ B ∧ B < w.heap.size ∧ (∀ c m, ι c = some m → m.blk = B → c = base + i) ∧ ObjAt ι ob ⟨B, 0, z, false⟩ w
theorem agree (hO : Order P ops ms) {i : Nat} {o : Oper} {C D : Nat → Prop} (ho : ops[i]? = some o) (hc : Closed ms C) (hd : Closed ms D) (sc : ∀ j, (ms.getD i 0).testBit j = true → C j)
    (sd : ∀ j, (ms.getD i 0).testBit j = true → D j) (nc : ¬ C i) (nd : ¬ D i) : ∀ t ∈ tmpsOf ops o, (In ops C t ↔ In ops D t) := by
  intro t ht
  have key : ∀ {C D : Nat → Prop}, Closed ms C → ¬ C i → (∀ j, (ms.getD i 0).testBit j = true → D j) → In ops C t → In ops D t := by
    rintro C D hc nc sd ⟨j, q, h1, h2, h3⟩
    have hne : i ≠ j := fun hh => nc (hh ▸ h1)
    rcases hO.looks_ordered hne ho h2 h3 ht with h | h
    · exact ⟨j, q, sd j h, h2, h3⟩
    · exact (nc (hc j i h1 h)).elim
  exact ⟨key hc nc sd, key hd nd sc⟩
theorem tm_rel {ι : Inj} {a0 a1 : T Value} {C D : Nat → Prop} {tm : T Value} {A : Array Value} {l : List Tmp} (hf : FrInv ops a0 a1 C tm) (ha : ∀ t ∈ l, (In ops C t ↔ In ops D t))
    (hD : ∀ t, In ops D t → VRel ι ((a1.get t).getD undef) (A.getD t undef)) (h0 : ∀ t, ¬ In ops D t → VRel ι ((a0.get t).getD undef) (A.getD t undef)) :
    ∀ t ∈ l, VRel ι ((tm.get t).getD undef) (A.getD t undef) := by
  intro t ht
  by_cases h : In ops D t
  · rw [(hf t).1 ((ha t ht).2 h)]; exact hD t h
  · rw [(hf t).2 fun hh => h ((ha t ht).1 hh)]; exact h0 t h
theorem erel_of {ι : Inj} {a : Fr} {A : Act} {n : Nat} {o : Oper} (h : ∀ t ∈ tmpsOf ops o, VRel ι ((a.tm.get t).getD undef) (A.tmps.getD t undef)) (ho : operOK n o = true) : ERel ι a.ev A.eval o.op := by
  intro x hx
  simp only [operOK, Bool.and_eq_true] at ho
  have hx' := allA_mem ho.1 x hx
  cases x with
  | tmp t =>
    refine h t (List.mem_append_right _ (List.mem_filterMap.2 ⟨.tmp t, by simpa using hx, rfl⟩))
  | const v =>
    have hg : gnd v = true := by simpa [xOK] using hx'
    exact VRel.refl hg
  | global g => simp [xOK] at hx'
  | func f => exact .func (.func f) rfl (fun i v v' h => by simp at h) rfl (fun i v v' h => by simp at h)
theorem wanted_of {ι : Inj} {a : Fr} {A : Array Value} {o : Oper} (h : ∀ t ∈ tmpsOf ops o, VRel ι ((a.tm.get t).getD undef) (A.getD t undef)) : Region.wanted o (yielded ops A) = wantedA ops a o := by
  unfold Region.wanted wantedA
  cases hg : o.guard with
  | none => rfl
  | some p =>
    obtain ⟨j, want⟩ := p
    simp only [yielded]
    cases hj : ops[j]? with
    | none => simp
    | some oj =>
      simp only [Option.bind_some]
      cases hd : oj.dst with
      | none => simp
      | some d =>
        simp only [Option.bind_some]
        have := h d (List.mem_append_left _ (by simp [hg, hj, hd]))
        simp only [Array.getD_eq_getD_getElem?] at this
        cases hg : a.tm.get d with
        | none =>
          rw [hg] at this
          simp only [Option.getD_none] at this
          cases hA : A[d]? with
          | none => simp
          | some v =>
            rw [hA] at this
            simp only [Option.getD_some] at this
            cases this; simp
        | some u =>
          rw [hg] at this
          simp only [Option.getD_some] at this
          cases hA : A[d]? with
          | none =>
            rw [hA] at this
            simp only [Option.getD_none, undef] at this
            cases this; simp
          | some v =>
            rw [hA] at this
            simp only [Option.getD_some] at this
            cases this <;> simp
theorem In.add {D : Nat → Prop} {i : Nat} {o : Oper} {t : Tmp} (ho : ops[i]? = some o) : In ops (fun j => D j ∨ j = i) t ↔ In ops D t ∨ o.dst = some t := by
  constructor
  · rintro ⟨j, q, h1, h2, h3⟩
    rcases h1 with h1 | rfl
    · exact .inl ⟨j, q, h1, h2, h3⟩
    · rw [ho] at h2; cases h2; exact .inr h3
  · rintro (⟨j, q, h1, h2, h3⟩ | h)
    · exact ⟨j, q, .inl h1, h2, h3⟩
    · exact ⟨i, o, .inr rfl, ho, h⟩
/-- the temporaries, when one more is written -/
theorem tms_put {ι : Inj} {a0 a1 : T Value} {D : Nat → Prop} {A : Act} {i : Nat} {o : Oper} {v v' : Value} (ho : ops[i]? = some o) (hlt : ∀ d, o.dst = some d → d < A.tmps.size) (hd : ∀ x, o.dst = some x → a1.get x = some v) (hv : VRel ι v v')
    (hD : ∀ t, In ops D t → VRel ι ((a1.get t).getD undef) (A.tmps.getD t undef)) (h0 : ∀ t, ¬ In ops D t → VRel ι ((a0.get t).getD undef) (A.tmps.getD t undef)) :
    (∀ t, In ops (fun j => D j ∨ j = i) t → VRel ι ((a1.get t).getD undef) ((A.put o.dst v').tmps.getD t undef)) ∧ (∀ t, ¬ In ops (fun j => D j ∨ j = i) t → VRel ι ((a0.get t).getD undef) ((A.put o.dst v').tmps.getD t undef)) := by
  have get : ∀ t, (A.put o.dst v').tmps.getD t undef = if o.dst = some t then v' else A.tmps.getD t undef := by
    intro t
    cases hod : o.dst with
    | none => simp [Act.put]
    | some d =>
      have := hlt d hod
      simp only [Act.put, Array.getD_eq_getD_getElem?, Option.some.injEq]
      by_cases hdt : d = t
      · subst hdt; simp [this]
      · rw [if_neg hdt, Array.getElem?_setIfInBounds_ne hdt]
  constructor
  · intro t ht
    rw [get]
    by_cases h1 : o.dst = some t
    · rw [if_pos h1, hd t h1]; exact hv
    · rw [if_neg h1]
      exact hD t (((In.add ho).1 ht).resolve_right h1)
  · intro t ht
    rw [get]
    have h1 : o.dst ≠ some t := fun hh => ht ((In.add ho).2 (.inr hh))
    rw [if_neg h1]
    exact h0 t fun hh => ht ((In.add ho).2 (.inl hh))
end
end
end Go.Idl

/- The ideal machine, part Y: regions that draw their order: one operation. -/
namespace Go.Idl
open Go
noncomputable section

section
variable {P : Program} {R : Callee} {ops : Array Oper} {ms : List Nat} {a0 : T Value} {n0 base : Nat} {ι0 : Inj} {w0 : World} {df : List Deferred} {a1 : Fr} {σ1 : Heap}
  {st : List (List Nat × Nat)} {tail : List Nat} {a : Fr} {σ : Heap} {hs : List Heap} {d : Nat} {D : Nat → Prop} {ι : Inj} {A : Act} {w : World}
theorem put_defers (A : Act) (x : Option Tmp) (v : Value) : (A.put x v).defers = A.defers := by cases x <;> rfl
theorem put_size (A : Act) (x : Option Tmp) (v : Value) : (A.put x v).tmps.size = A.tmps.size := by cases x <;> simp [Act.put]
theorem Inv.same (I : Inv P R ops ms a0 n0 base ι0 w0 df a1 σ1 st tail a σ hs d D ι A w) {i : Nat} {o : Oper} {v v' : Value} (ho : ops[i]? = some o) (hs0 : spine P o = false)
    (hsub : ∀ j, (ms.getD i 0).testBit j = true → D j) (hlt : ∀ d, o.dst = some d → d < A.tmps.size) (hd : ∀ x, o.dst = some x → a1.tm.get x = some v) (hv : VRel ι v v')
    (hf : ∀ ob, ¬ Fut P R ops ms base i ob st tail a σ hs) : Inv P R ops ms a0 n0 base ι0 w0 df a1 σ1 st tail a σ hs d (fun j => D j ∨ j = i) ι (A.put o.dst v') w := by
  obtain ⟨t1, t2⟩ := tms_put ho hlt hd hv I.tmD I.tm0
  exact { I with
    sub := fun j hj => .inl (I.sub j hj)
    early := fun j q hj hq hsp => by
      rcases hj with hj | rfl
      · exact I.early j q hj hq hsp
      · rw [ho] at hq; cases hq; rw [hs0] at hsp; cases hsp
    clD := fun x j hx hj => by
      rcases hx with hx | rfl
      · exact .inl (I.clD x j hx hj)
      · exact .inl (hsub j hj)
    tmD := t1
    tm0 := t2
    size := by rw [put_size]; exact I.size
    df := by rw [put_defers]; exact I.df
    res := fun j hj hn => I.res j hj fun h => hn (.inl h)
    more := fun b l hb => (I.more b l hb).imp id fun ⟨h1, h2⟩ => ⟨h1, h2.imp id fun ⟨j, ob, e1, e2, e3, e4⟩ => ⟨j, ob, e1, .inl e2, e3, e4⟩⟩
    pend := fun j ob hj hn hfu => by
      rcases hj with hj | rfl
      · exact I.pend j ob hj hn hfu
      · exact (hf ob hfu).elim }
theorem Inv.alloc (I : Inv P R ops ms a0 n0 base ι0 w0 df a1 σ1 st tail a σ hs d D ι A w) {i : Nat} {o : Oper} {v v' : Value} (ho : ops[i]? = some o) (hs0 : spine P o = false) (hnd : ¬ D i)
    (hsub : ∀ j, (ms.getD i 0).testBit j = true → D j) (hlt : ∀ d, o.dst = some d → d < A.tmps.size) (hd : ∀ x, o.dst = some x → a1.tm.get x = some v) {ob : AObj} {o' : Obj} {z : Nat}
    (hc : CRel ι ob o' z) (hv : VRel (ι.turn (base + i) ⟨w.heap.size, 0, z, true⟩) v v')
    (hf : ∀ ob', Fut P R ops ms base i ob' st tail a σ hs ↔ some ob = some ob') :
    Inv P R ops ms a0 n0 base ι0 w0 df a1 σ1 st tail a σ hs d (fun j => D j ∨ j = i) (ι.turn (base + i) ⟨w.heap.size, 0, z, true⟩) (A.put o.dst v') (w.alloc o') := by
  have hi := lt_of_get ho
  have hnone := I.res i hi hnd
  have hb : base + i < σ.next := by have := I.rel.top; have := I.top; omega
  obtain ⟨hle, hrel⟩ := I.rel.hold hnone hb z o'
  obtain ⟨t1, t2⟩ := tms_put (a0 := a0) ho hlt hd hv (fun t ht => (I.tmD t ht).mono hle) (fun t ht => (I.tm0 t ht).mono hle)
  have hnb : ¬ bits d i := fun h => hnd (I.sub i h)
  have hsz : (w.alloc o').heap.size = w.heap.size + 1 := alloc_size _ _
  exact { I with
    sub := fun j hj => .inl (I.sub j hj)
    early := fun j q hj hq hsp => by
      rcases hj with hj | rfl
      · exact I.early j q hj hq hsp
      · rw [ho] at hq; cases hq; rw [hs0] at hsp; cases hsp
    clD := fun x j hx hj => by
      rcases hx with hx | rfl
      · exact .inl (I.clD x j hx hj)
      · exact .inl (hsub j hj)
    tmD := t1
    tm0 := t2
    size := by rw [put_size]; exact I.size
    df := by rw [put_defers]; exact I.df
    rel := hrel
    le := I.le.trans hle
    wsize := by rw [hsz]; exact Nat.le_trans I.wsize (by omega)
    old := fun B hB hu => by
      obtain ⟨h1, h2⟩ := I.old B hB hu
      have := I.wsize
      refine ⟨by rw [alloc_get, if_neg (by omega)]; exact h1, fun b l hb hro => ?_⟩
      by_cases hbi : b = base + i
      · subst hbi; rw [Inj.turn_same] at hb; cases hb; cases hro
      · rw [Inj.turn_ne _ _ hbi] at hb; exact h2 b l hb hro
    os := I.os
    output := I.output
    tape := I.tape
    top := I.top
    res := fun j hj hn => by
      have hji : base + j ≠ base + i := fun h => hn (.inr (by omega))
      rw [Inj.turn_ne _ _ hji]; exact I.res j hj fun h => hn (.inl h)
    more := fun b l hb => by
      by_cases hbi : b = base + i
      · subst hbi
        exact .inr ⟨by omega, .inr ⟨i, ob, rfl, .inr rfl, hnb, (hf ob).2 rfl⟩⟩
      · rw [Inj.turn_ne _ _ hbi] at hb
        exact (I.more b l hb).imp id fun ⟨h1, h2⟩ => ⟨h1, h2.imp id fun ⟨j, ob, e1, e2, e3, e4⟩ => ⟨j, ob, e1, .inl e2, e3, e4⟩⟩
    pend := fun j ob' hj hn hfu => by
      by_cases hji : j = i
      · subst hji
        have := (hf ob').1 hfu
        cases this
        refine ⟨w.heap.size, z, Inj.turn_same _ _ _, I.wsize, by omega, fun c m hc' hm => ?_, (hc.mono hle).at (by rw [alloc_get, if_pos rfl])⟩
        by_cases hcj : c = base + j
        · exact hcj
        · rw [Inj.turn_ne _ _ hcj] at hc'
          have := (I.rel.dom c m hc').2
          omega
      · obtain ⟨B, z', h1, h2, h3, h4, h5⟩ := I.pend j ob' (hj.resolve_right hji) hn hfu
        refine ⟨B, z', by rw [Inj.turn_ne _ _ (by omega)]; exact h1, h2, by omega, fun c m hc' hm => ?_, h5.mono hle (by rw [alloc_get, if_neg (by simp only; omega)])⟩
        by_cases hcj : c = base + i
        · subst hcj
          rw [Inj.turn_same] at hc'; cases hc'
          simp only at hm; omega
        · rw [Inj.turn_ne _ _ hcj] at hc'
          exact h4 c m hc' hm }
/-- what is neither a write nor a call -/
theorem Inv.other (hO : Order P ops ms) (I : Inv P R ops ms a0 n0 base ι0 w0 df a1 σ1 st tail a σ hs d D ι A w) {i : Nat} {o : Oper} (ho : ops[i]? = some o) (hs0 : spine P o = false) (hnd : ¬ D i)
    (hsub : ∀ j, (ms.getD i 0).testBit j = true → D j) (hok : operOK n0 o = true) :
    (Region.wanted o (yielded ops A.tmps) = false ∧ ∃ ι', Inv P R ops ms a0 n0 base ι0 w0 df a1 σ1 st tail a σ hs d (fun j => D j ∨ j = i) ι' (A.put o.dst undef) w) ∨
    (Region.wanted o (yielded ops A.tmps) = true ∧ (∀ c, o.op ≠ .defer c) ∧ ∃ v' w', (execOp A.eval o).run P w = .ok (.value v') w' ∧ ∃ ι', Inv P R ops ms a0 n0 base ι0 w0 df a1 σ1 st tail a σ hs d (fun j => D j ∨ j = i) ι' (A.put o.dst v') w') := by
  obtain ⟨ai, dc, v, fo, H⟩ := stages_ahead hO I.ok I.run I.frd I.cld i o ho hs0 fun h => hnd (I.sub i h)
  have hag := agree hO ho H.cl I.clD H.sub hsub H.not hnd
  have htm := tm_rel H.fr hag I.tmD I.tm0
  have hw := wanted_of htm
  have her := erel_of htm hok
  have hlt : ∀ x, o.dst = some x → x < A.tmps.size := by
    intro x hx
    simp only [operOK, hx, Bool.and_eq_true] at hok
    have := hok.2
    rw [nblt] at this
    rw [I.size]; simpa using this
  have nof : fo = none → ∀ ob, ¬ Fut P R ops ms base i ob st tail a σ hs := by
    intro hfo ob hfu
    have := (H.fut ob).1 hfu
    rw [hfo] at this; cases this
  have nd : ∀ {k : Cls}, clsOf P o.op = k → k ≠ .bad → ∀ c, o.op ≠ .defer c := by
    rintro k hk hb c hc
    rw [hc] at hk
    exact hb hk.symm
  rcases H.does with ⟨h1, rfl, h3⟩ | ⟨h1, h2⟩
  · exact .inl ⟨by rw [hw, h1], ι, I.same ho hs0 hsub hlt H.dst (VRel.undef ι) (nof h3)⟩
  · refine .inr ⟨by rw [hw, h1], ?_⟩
    rcases h2 with ⟨c1, c2, c3⟩ | ⟨c1, c2, c3⟩ | ⟨c1, ob, mk, c2, c3, c4⟩
    · obtain ⟨v', q1, q2⟩ := pA_sound her c2
      exact ⟨nd c1 (by simp), v', w, q2 w, ι, I.same ho hs0 hsub hlt H.dst q1 (nof c3)⟩
    · have hle : spinesIn P ops (ms.getD i 0) ≤ spinesDone P ops d := by
        refine countIdx_mono _ fun j hj h => ?_
        simp only [Bool.and_eq_true] at h ⊢
        refine ⟨?_, h.2⟩
        cases hq : ops[j]? with
        | none => have := h.2; rw [hq] at this; cases this
        | some q => exact I.early j q (hsub j h.1) hq (by have := h.2; rw [hq] at this; exact this)
      obtain ⟨v', q1, q2⟩ := rA_sound I.rel her (c2 σ ⟨_, hle, I.last⟩)
      exact ⟨nd c1 (by simp), v', w, q2, ι, I.same ho hs0 hsub hlt H.dst q1 (nof c3)⟩
    · obtain ⟨o', z, mk', q1, q2, q3⟩ := aA_sound her c2
      refine ⟨nd c1 (by simp), _, _, q2 w, _, I.alloc ho hs0 hnd hsub hlt H.dst q1 ?_ fun ob' => (H.fut ob').trans (by rw [c4])⟩
      have := q3 (ι.turn (base + i) ⟨w.heap.size, 0, z, false⟩) (base + i) w.heap.size (Inj.turn_same _ _ _)
      rw [c3]
      refine this.sim fun c l hc => ?_
      by_cases hcb : c = base + i
      · subst hcb
        rw [Inj.turn_same] at hc; cases hc
        exact ⟨_, Inj.turn_same _ _ _, rfl, rfl, rfl⟩
      · rw [Inj.turn_ne _ _ hcb] at hc
        exact ⟨l, by rw [Inj.turn_ne _ _ hcb]; exact hc, rfl, rfl, rfl⟩
end
end
end Go.Idl
