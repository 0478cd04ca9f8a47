/- An ideal machine of our own, and that it is right: part 2 of 5. -/
import Derived.RangeFuncLeaves
import Derived.Test.YtpddlhbhpncfaaaGreatIa1
set_option linter.unusedVariables false
set_option linter.unusedSimpArgs false
/- The ideal machine, part I: appending. -/
namespace Go.Idl
open Go
noncomputable section

section
variable {ι : Inj} {σ : Heap} {w : World}
/-- a row that may be written is cut loose from the rows that it may share its block with -/
def Heap.loose (σ : Heap) (b : Nat) (r : Row) (p k : Option Nat) : Heap :=
  ((σ.kill r.par).kill r.kid).put b (.row { size := r.size, cells := r.cells, ro := r.ro, par := p, kid := k })
theorem obj_loose (σ : Heap) (b c : Nat) (r : Row) (p k : Option Nat) :
    (σ.loose b r p k).obj c = if c = b then .row { size := r.size, cells := r.cells, ro := r.ro, par := p, kid := k } else if r.par = some c ∨ r.kid = some c then .dead else σ.obj c := by
  unfold Heap.loose
  rw [Heap.obj_put]
  by_cases h : c = b
  · simp [h]
  · rw [if_neg h, if_neg h, obj_kill, obj_kill]
    by_cases h1 : r.kid = some c <;> by_cases h2 : r.par = some c <;> simp [h1, h2]
@[simp] theorem next_loose (σ : Heap) (b : Nat) (r : Row) (p k : Option Nat) : (σ.loose b r p k).next = σ.next := by simp [Heap.loose]
/-- in a heap whose row b is cut loose, no other live object lies in its block -/
theorem loose_alone (h : Rel ι σ w) {b c : Nat} {r : Row} {p k : Option Nat} {l m : Loc} (hr : σ.obj b = .row r) (hro : r.ro = false) (hb : ι b = some l) (hc : c ≠ b)
    (hl : ((σ.loose b r p k).obj c).live = true) (hm : ι c = some m) : m.blk ≠ l.blk := by
  rw [obj_loose, if_neg hc] at hl
  split at hl
  · cases hl
  · rename_i hk
    exact h.other hr hro hc hl hb hm (fun x => hk (.inl x)) (fun x => hk (.inr x))
theorem Rel.loose (h : Rel ι σ w) {b : Nat} {r : Row} (p k : Option Nat) (hr : σ.obj b = .row r) (hro : r.ro = false) : Rel ι (σ.loose b r p k) w := by
  obtain ⟨l, hl, hlr, hat⟩ := h.row hr
  refine ⟨fun c m hm => by simpa using h.dom c m hm, fun c hc => ?_, fun c hc => ?_, fun x y lx ly hne hx hy hlx hly he => ?_, by simpa using h.top⟩
  · have hc' : σ.next ≤ c := by simpa using hc
    have hcb : c ≠ b := fun hh => by have := (h.dom b l hl).1; omega
    rw [obj_loose, if_neg hcb, h.fresh c hc']; split <;> rfl
  · by_cases hcb : c = b
    · subst hcb
      rw [obj_loose, if_pos rfl]
      exact ⟨l, hl, hlr, ⟨hat.out⟩⟩
    · rw [obj_loose, if_neg hcb] at hc ⊢
      split at hc
      · cases hc
      · rename_i hk
        rw [if_neg hk]; exact h.at_ c hc
  · by_cases hxb : x = b
    · subst hxb
      rw [hl] at hlx; cases hlx
      exact (loose_alone h hr hro hl (Ne.symm hne) hy hly he.symm).elim
    · by_cases hyb : y = b
      · subst hyb
        rw [hl] at hly; cases hly
        exact (loose_alone h hr hro hl hxb hx hlx he).elim
      · have ex := obj_loose σ b x r p k
        have ey := obj_loose σ b y r p k
        rw [if_neg hxb] at ex; rw [if_neg hyb] at ey
        rw [ex] at hx; rw [ey] at hy
        split at hx
        · cases hx
        · rename_i hkx
          split at hy
          · cases hy
          · rename_i hky
            rw [if_neg hkx] at ex; rw [if_neg hky] at ey
            refine (h.sep x y lx ly hne hx hy hlx hly he).imp id ?_
            rintro ⟨r1, s1, g1, g2, g3⟩
            exact ⟨r1, s1, ex.trans g1, ey.trans g2, g3⟩
/-- the row of an append that may lie in the old row's block -/
def grownRow (b : Nat) (keep : Bool) (size : Nat) (t : T Value) : AObj :=
  .row { size := size, cells := t, ro := false, par := bif keep then some b else none, kid := none }
def Heap.grow (σ : Heap) (b : Nat) (r : Row) (keep : Bool) (size : Nat) (t : T Value) : Heap :=
  (bif keep then σ.loose b r none (some σ.next) else (σ.loose b r none none).kill (some b)).new (grownRow b keep size t)
/-- the append has laid a block of its own -/
theorem Rel.grow_new (h : Rel ι σ w) {b : Nat} {r : Row} {keep : Bool} {size : Nat} {t : T Value} (hr : σ.obj b = .row r) (hro : r.ro = false) {c : Array Value} {e : TypeId}
    (hz : size ≤ c.size) (ht : ∀ i, i < size → ∃ v v', t.get i = some v ∧ c[i]? = some v' ∧ VRel ι v v') :
    Rel (ι.add σ.next ⟨w.heap.size, 0, c.size, false⟩) (σ.grow b r keep size t) (w.alloc (.cells c e)) ∧
      Kept ι w (ι.add σ.next ⟨w.heap.size, 0, c.size, false⟩) (w.alloc (.cells c e)) := by
  have hob : ∀ ι', ι.le ι' → ObjAt ι' (grownRow b keep size t) ⟨w.heap.size, 0, c.size, false⟩ (w.alloc (.cells c e)) := by
    intro ι' hle
    refine ⟨rfl, c, e, (0, 0), by simp only [World.alloc]; simp, fun _ => .inl rfl, rfl, by simpa using hz, fun i hi => ?_⟩
    obtain ⟨v, v', h1, h2, h3⟩ := ht i hi
    exact ⟨v, v', h1, by simpa using h2, h3.mono hle⟩
  unfold Heap.grow
  cases keep with
  | true =>
    simp only [cond_true]
    have hn : (σ.loose b r none (some σ.next)).next = σ.next := by simp
    have := (h.loose none (some σ.next) hr hro).new (z := c.size) (o := grownRow b true size t) (o' := .cells c e) (by rw [hn]; exact hob _ (Inj.le_add _ h.next_none))
    rwa [hn] at this
  | false =>
    simp only [cond_false]
    have hn : ((σ.loose b r none none).kill (some b)).next = σ.next := by simp
    have := ((h.loose none none hr hro).kill (some b)).new (z := c.size) (o := grownRow b false size t) (o' := .cells c e) (by rw [hn]; exact hob _ (Inj.le_add _ h.next_none))
    rwa [hn] at this
/-- the append has written on in the old row's block -/
theorem Rel.grow_old (h : Rel ι σ w) {b o at_ : Nat} {r : Row} {keep : Bool} {size : Nat} {t : T Value} {l : Loc} (hr : σ.obj b = .row r) (hro : r.ro = false) (hb : ι b = some l)
    {c : Array Value} {e : TypeId} {fr : Nat × Nat} {vs' : List Value} (hB : w.heap[l.blk]? = some (.cells c e fr)) (hk : keep = true → r.size ≤ at_)
    (hz : l.base + o + size ≤ c.size) (ht : ∀ i, i < size → ∃ v v', t.get i = some v ∧ (spl c (l.base + at_) vs')[l.base + o + i]? = some v' ∧ VRel ι v v') :
    Rel (ι.add σ.next ⟨l.blk, l.base + o, l.csz, false⟩) (σ.grow b r keep size t) (World.setObj w l.blk (.cells (spl c (l.base + at_) vs') e fr)) ∧
      Kept ι w (ι.add σ.next ⟨l.blk, l.base + o, l.csz, false⟩) (World.setObj w l.blk (.cells (spl c (l.base + at_) vs') e fr)) := by
  obtain ⟨l', hl', hlr, ⟨c1, e1, fr1, g1, g2, g3, g4, g5⟩⟩ := h.row hr
  rw [hb] at hl'; cases hl'
  rw [hB] at g1; cases g1
  have hlro : l.ro = false := hlr.trans hro
  have hlt := (h.dom b l hb).2
  have hbn := (h.dom b l hb).1
  have hnone := h.next_none
  have hle := Inj.le_add (ι := ι) (b := σ.next) ⟨l.blk, l.base + o, l.csz, false⟩ hnone
  -- what the objects are
  have hobj : ∀ x, (σ.grow b r keep size t).obj x = if x = σ.next then grownRow b keep size t else if x = b then (bif keep then .row { size := r.size, cells := r.cells, ro := r.ro, par := none, kid := some σ.next } else .dead)
      else if r.par = some x ∨ r.kid = some x then .dead else σ.obj x := by
    intro x
    unfold Heap.grow
    rw [Heap.obj_new]
    cases keep with
    | true =>
      simp only [cond_true, next_loose]
      rw [obj_loose]
    | false =>
      simp only [cond_false, next_kill, next_loose]
      rw [obj_kill, obj_loose]
      by_cases h1 : x = σ.next
      · simp [h1]
      · by_cases h2 : x = b
        · simp [h2]
        · simp [h1, h2, Ne.symm h2]
  have hnext : (σ.grow b r keep size t).next = σ.next + 1 := by
    unfold Heap.grow; cases keep <;> simp
  have hoth : ∀ x m, x ≠ σ.next → x ≠ b → ((σ.grow b r keep size t).obj x).live = true → ι x = some m → m.blk ≠ l.blk := by
    intro x m h1 h2 h3 hm
    rw [hobj, if_neg h1, if_neg h2] at h3
    split at h3
    · cases h3
    · rename_i hk'
      exact h.other hr hro h2 h3 hb hm (fun z => hk' (.inl z)) (fun z => hk' (.inr z))
  have hadd : ∀ x m, x ≠ σ.next → (ι.add σ.next ⟨l.blk, l.base + o, l.csz, false⟩) x = some m → ι x = some m := fun x m hx hh => by rwa [Inj.add_ne _ _ hx] at hh
  refine ⟨⟨fun x m hm => ?_, fun x hx => ?_, fun x hx => ?_, fun x y lx ly hne hx hy hlx hly he => ?_, by rw [hnext]; rfl⟩, ⟨hle, by simp, fun B hBl hu => ⟨?_, ?_⟩, rfl, rfl, rfl, h.more_add _ rfl⟩⟩
  · rw [hnext]
    by_cases h1 : x = σ.next
    · subst h1; rw [Inj.add_same] at hm; cases hm; simp; omega
    · have := h.dom x m (hadd x m h1 hm); simp; omega
  · rw [hnext] at hx
    rw [hobj, if_neg (by omega), if_neg (by omega), h.fresh x (by omega)]
    split <;> rfl
  · by_cases h1 : x = σ.next
    · subst h1
      refine ⟨_, Inj.add_same _ _ _, ?_⟩
      rw [hobj, if_pos rfl]
      refine ⟨rfl, spl c (l.base + at_) vs', e, fr, ?_, fun _ => by simpa using g2 hro, by simpa using g3, by simpa using hz, fun i hi => ?_⟩
      · rw [heap_setObj _ _ _ _ hlt]; simp
      · obtain ⟨v, v', k1, k2, k3⟩ := ht i hi
        exact ⟨v, v', k1, k2, k3.mono hle⟩
    · by_cases h2 : x = b
      · subst h2
        refine ⟨l, hle _ _ hb, ?_⟩
        rw [hobj, if_neg h1, if_pos rfl] at hx ⊢
        cases keep with
        | false => cases hx
        | true =>
          simp only [cond_true]
          refine ⟨hlr, spl c (l.base + at_) vs', e, fr, ?_, fun _ => by simpa using g2 hro, by simpa using g3, by simpa using g4, fun i hi => ?_⟩
          · rw [heap_setObj _ _ _ _ hlt]; simp
          · obtain ⟨v, v', k1, k2, k3⟩ := g5 i hi
            have := hk rfl
            have hi' : i < r.size := hi
            refine ⟨v, v', k1, ?_, k3.mono hle⟩
            rw [get_spl, if_neg (by omega)]; exact k2
      · have hlive := hx
        rw [hobj, if_neg h1, if_neg h2] at hx ⊢
        split at hx
        · cases hx
        · rename_i hk'
          rw [if_neg hk']
          obtain ⟨m, hm, hob⟩ := h.at_ x hx
          have := hoth x m h1 h2 hlive hm
          exact ⟨m, hle _ _ hm, hob.mono hle (by rw [heap_setObj _ _ _ _ hlt, if_neg this])⟩
  · have key : ∀ {x y : Nat} {lx ly : Loc}, x ≠ y → x = σ.next → ((σ.grow b r keep size t).obj y).live = true → (ι.add σ.next ⟨l.blk, l.base + o, l.csz, false⟩) x = some lx →
        (ι.add σ.next ⟨l.blk, l.base + o, l.csz, false⟩) y = some ly → lx.blk = ly.blk → y = b ∧ keep = true := by
      intro x y lx ly hne hx hy hlx hly he
      subst hx
      rw [Inj.add_same] at hlx; cases hlx
      have h4 := hadd y ly (Ne.symm hne) hly
      by_cases hyb : y = b
      · refine ⟨hyb, ?_⟩
        subst hyb
        rw [hobj, if_neg (Ne.symm hne), if_pos rfl] at hy
        cases keep with
        | true => rfl
        | false => cases hy
      · exact (hoth y ly (Ne.symm hne) hyb hy h4 he.symm).elim
    by_cases hxn : x = σ.next
    · obtain ⟨hyb, hkeep⟩ := key hne hxn hy hlx hly he
      subst hxn; subst hyb
      refine .inr ⟨_, _, by rw [hobj, if_pos rfl]; rfl, by rw [hobj, if_neg (Ne.symm hne), if_pos rfl, hkeep]; rfl, .inr ⟨by simp [hkeep], rfl⟩⟩
    · by_cases hyn : y = σ.next
      · obtain ⟨hxb, hkeep⟩ := key (Ne.symm hne) hyn hx hly hlx he.symm
        subst hyn; subst hxb
        refine .inr ⟨_, _, by rw [hobj, if_neg hxn, if_pos rfl, hkeep]; rfl, by rw [hobj, if_pos rfl]; rfl, .inl ⟨rfl, by simp [hkeep]⟩⟩
      · have h3 := hadd x lx hxn hlx
        have h4 := hadd y ly hyn hly
        by_cases hxb : x = b
        · subst hxb
          rw [hb] at h3; cases h3
          exact (hoth y ly hyn (Ne.symm hne) hy h4 he.symm).elim
        · by_cases hyb : y = b
          · subst hyb
            rw [hb] at h4; cases h4
            exact (hoth x lx hxn hxb hx h3 he).elim
          · have ex := hobj x
            have ey := hobj y
            rw [if_neg hxn, if_neg hxb] at ex
            rw [if_neg hyn, if_neg hyb] at ey
            rw [ex] at hx; rw [ey] at hy
            split at hx
            · cases hx
            · rename_i hkx
              split at hy
              · cases hy
              · rename_i hky
                rw [if_neg hkx] at ex; rw [if_neg hky] at ey
                refine (h.sep x y lx ly hne hx hy h3 h4 he).imp id ?_
                rintro ⟨r1, s1, q1, q2, q3⟩
                exact ⟨r1, s1, ex.trans q1, ey.trans q2, q3⟩
  · rw [heap_setObj _ _ _ _ hlt, if_neg (fun hh => hu b l hb hlro hh.symm)]
  · intro x m hm hmro
    by_cases h1 : x = σ.next
    · subst h1; rw [Inj.add_same] at hm; cases hm; exact hu b l hb hlro
    · exact hu x m (hadd x m h1 hm) hmro
end
end
end Go.Idl

/- The ideal machine, part J: append and copy, store, maps. -/
namespace Go.Idl
open Go
noncomputable section

section
variable {P : Program} {ι : Inj} {σ : Heap} {w : World}

/-! ### where appended cells come from -/
def srcLen : Value → Option Nat
  | .slice _ n _ => some n
  | .string s => some s.size
  | _ => none
def srcCells (σ : Heap) (size n : Nat) (x : Value) : Option (List Value) :=
  match x with
  | .slice none _ _ => some []
  | .slice (some ⟨b, o, _⟩) len _ => bif Nat.beq (n * size) 0 then some [] else bif Nat.ble n len then σ.loadL b o (n * size) else none
  | .string s => some ((s.data.toList.take n).map fun b => .int .u8 b.toNat)
  | _ => none
theorem srcLen_rel {x x' : Value} {n : Nat} (h : VRel ι x x') (hn : srcLen x = some n) (w : World) : (Builtin.lenOf x').run P w = .ok n w := by
  unfold srcLen at hn
  split at hn <;> try (cases hn; done)
  · cases hn; cases h <;> rfl
  · cases hn; cases h; rfl
theorem LRel.refl_nil : LRel ι [] [] := ⟨rfl, fun i v v' h => by simp at h⟩
theorem LRel.refl_gnd {l : List Value} (h : ∀ v ∈ l, gnd1 v = true) : LRel ι l l := by
  refine ⟨rfl, fun i v v' h1 h2 => ?_⟩
  rw [h1] at h2; cases h2
  exact .refl1 (h v (List.mem_of_getElem? h1))
theorem run_loadCells0 (a : Addr) (w : World) : (loadCells a 0).run P w = .ok #[] w := by simp [loadCells, loadCellsFrom]
theorem loadL_len {σ : Heap} {b o n : Nat} {vs : List Value} (h : σ.loadL b o n = some vs) : vs.length = n := by
  unfold Heap.loadL at h
  split at h
  · cases h
  · rename_i r hr
    cases hle : Nat.ble (o + n) r.size with
    | false => simp [hle] at h
    | true => simp only [hle, cond_true] at h; exact (tsub_spec _ _ _ _ h).1
/-- what is read: the same in each world of that heap -/
theorem srcCells_rel (h : Rel ι σ w) {size n : Nat} {x x' : Value} {vs : List Value} (hx : VRel ι x x') (hs : srcCells σ size n x = some vs) :
    ∃ cs : Array Value, LRel ι vs cs.toList ∧ ∀ w' : World, w'.heap = w.heap → (Builtin.firstCells size n x').run P w' = .ok cs w' := by
  unfold srcCells at hs
  split at hs <;> try (cases hs; done)
  · cases hs; cases hx
    exact ⟨#[], LRel.refl_nil, fun w' _ => rfl⟩
  · rename_i b o sp len cap
    cases hz : Nat.beq (n * size) 0 with
    | true =>
      rw [hz] at hs
      simp only [cond_true, Option.some.injEq] at hs
      subst hs
      have hz : n * size = 0 := by simpa using hz
      refine ⟨#[], LRel.refl_nil, fun w' _ => ?_⟩
      cases hx <;> simp only [Builtin.firstCells, hz, run_loadCells0]
    | false =>
      rw [hz] at hs
      simp only [cond_false] at hs
      have hz : n * size ≠ 0 := by rw [T.nbeq] at hz; simpa using hz
      cases hnl : Nat.ble n len with
      | false => rw [hnl] at hs; cases hs
      | true =>
      rw [hnl] at hs
      simp only [cond_true] at hs
      have hnl : n ≤ len := by simpa using hnl
      have go : ∀ {l : Loc}, ι b = some l → ∃ cs : Array Value, LRel ι vs cs.toList ∧ ∀ w' : World, w'.heap = w.heap → (loadCells ⟨l.blk, l.base + o, none⟩ (n * size)).run P w' = .ok cs w' := by
        intro l hb
        obtain ⟨c, e, fr, g1, g2, g3⟩ := loadL_rel h hs hb
        exact ⟨_, g3, fun w' hw => run_loadCells (by rw [hw]; exact g1) g2⟩
      cases hx with
      | slice len cap hb => obtain ⟨cs, a1, a2⟩ := go hb; exact ⟨cs, a1, fun w' hw => a2 w' hw⟩
      | open_ len cap cap' hb _ _ => obtain ⟨cs, a1, a2⟩ := go hb; exact ⟨cs, a1, fun w' hw => a2 w' hw⟩
      | zero p hb =>
        have : n = 0 := by omega
        rw [this, Nat.zero_mul] at hz; exact absurd rfl hz
  · rename_i s
    cases hs; cases hx
    refine ⟨((s.extract 0 n).data.map fun b => .int .u8 b.toNat), ?_, fun w' _ => rfl⟩
    have : ((s.extract 0 n).data.map fun b => Value.int .u8 b.toNat).toList = (s.data.toList.take n).map fun b => .int .u8 b.toNat := by
      simp [ByteArray.data_extract]
    rw [this]
    exact LRel.refl_gnd fun v hv => by
      obtain ⟨b, _, rfl⟩ := List.mem_map.1 hv; rfl
/-! ### append -/
/-- what is appended: how many elements, and their cells -/
def appended (P : Program) (σ : Heap) (elem : TypeId) (es by_ : Nat) (zt : Option TypeId) (x : Value) : Option (Nat × List Value) :=
  match (match zt with | some t => (match P.underlying t with | some (.int _) => some true | some _ => some false | none => none) | none => some false) with
  | some true =>
    match x, zeroA P elem with
    | .int _ (.ofNat n), some z =>
      bif Nat.ble n (2 ^ 40) && Nat.ble (n * by_) (2 ^ 48) && Nat.beq z.size es && Nat.blt 0 es then some (n, zerosOf z (n * es)) else none
    | _, _ => none
  | some false =>
    match srcLen x with
    | some n =>
      match srcCells σ es n x with
      | some vs => some (n, vs)
      | none => none
    | none => none
  | none => none
/-- the slice that grows, its first cells -/
def oldCells (σ : Heap) (es : Nat) (base : Option Addr) (len : Nat) : Option (List Value) :=
  match base with
  | none => bif Nat.beq len 0 then some [] else none
  | some ⟨b, o, _⟩ => bif Nat.beq (len * es) 0 then some [] else σ.loadL b o (len * es)
/-- may a row of the elements be had? -/
def roomy (need es by_ : Nat) : Bool := Nat.ble need (2 ^ 40) && Nat.ble ((2 * need + 192) * by_) (2 ^ 48) && Nat.blt 0 by_ && Nat.blt 0 es
theorem growBy_le (newLen : Nat) : ∀ (k c : Nat), c < newLen → Builtin.growBy newLen k c ≤ 2 * newLen + 192
  | 0, c, h => by simp only [Builtin.growBy]; omega
  | k + 1, c, h => by
    simp only [Builtin.growBy]
    split
    · omega
    · by_cases h2 : c + (c + 768) / 4 < newLen
      · exact growBy_le newLen k _ h2
      · have : Builtin.growBy newLen k (c + (c + 768) / 4) = c + (c + 768) / 4 := by
          cases k with
          | zero => rfl
          | succ k => simp only [Builtin.growBy]; rw [if_pos (by omega)]
        rw [this]; omega
theorem nextslicecap_le {need cap : Nat} (h : cap < need) : Builtin.nextslicecap need cap ≤ 2 * need + 192 := by
  unfold Builtin.nextslicecap
  split
  · omega
  · split
    · omega
    · exact growBy_le need 4 cap h
/-- the world behind the draw of a capacity -/
def World.drawnTo (w : World) (d : Nat) : World := { w with drawn := d }
@[simp] theorem heap_drawnTo (w : World) (d : Nat) : (World.drawnTo w d).heap = w.heap := rfl
theorem info_of_bytes {elem : TypeId} {by_ : Nat} (hb : bytesOf? P elem = some by_) : ∃ inf, P.info? elem = some inf ∧ inf.bytes = by_ := by
  unfold bytesOf? at hb
  cases hi : P.info? elem with
  | none => simp [hi] at hb
  | some i => simp only [hi, Option.some.injEq] at hb; exact ⟨i, rfl, hb⟩
theorem run_append_new {st elem : TypeId} {es by_ n len cap : Nat} {base : Option Addr} {x : Value} {ts : Array TypeId} {ty : TypeId} {args : Array Value} {old new : Array Value}
    {z : Array Value} (ht : ts[0]? = some st) (hzt : ts[1]? = none ∨ ∃ t d, ts[1]? = some t ∧ P.underlying t = some d ∧ ∀ k, d ≠ .int k)
    (ha0 : args[0]? = some (.slice base len cap)) (ha1 : args[1]? = some x) (hu : P.underlying st = some (.slice elem))
    (hs : tsz P elem = some es) (hb : bytesOf? P elem = some by_) (hz : zeroA P elem = some z) (hroom : roomy (len + n) es by_ = true) (hgt : cap < len + n)
    (hn : ∀ w', (Builtin.lenOf x).run P w' = .ok n w') (hnew : ∀ w', w'.heap = w.heap → (Builtin.firstCells es n x).run P w' = .ok new w')
    (hold : ∀ w', w'.heap = w.heap → (Builtin.firstCells es len (.slice base len cap)).run P w' = .ok old w') :
    ∃ (newCap d : Nat) (rest : Array Value), len + n ≤ newCap ∧ rest.size = (newCap - (len + n)) * z.size ∧
      (Builtin.append_ ts ty args).run P w = .ok (.slice (some ⟨w.heap.size, 0, none⟩) (len + n) newCap) ((World.drawnTo w d).alloc (.cells (old ++ new ++ rest) elem)) := by
  obtain ⟨_, v, hv, hzrun⟩ := zeroA_run hz ⟨fun _ => none, 0⟩
  simp only [roomy, Bool.and_eq_true] at hroom
  have r1 : len + n ≤ 2 ^ 40 := by simpa using hroom.1.1.1
  have r2 : (2 * (len + n) + 192) * by_ ≤ 2 ^ 48 := by simpa using hroom.1.1.2
  have r3 : 0 < by_ := by have := hroom.1.2; rw [nblt] at this; simpa using this
  obtain ⟨inf, hinf, hinfb⟩ := info_of_bytes hb
  have hti : ∀ w', (typeInfo elem).run P w' = .ok inf w' := fun w' => run_typeInfo hinf
  obtain ⟨N, hN, hch⟩ : ∃ N, len + n ≤ N ∧ (choose (Question.appendCap (len + n) cap elem)).run P w = .ok N (World.drawnTo w (w.drawn + 1)) :=
    ⟨_, Nat.le_add_right _ _, by simp only [run_choose]; rfl⟩
  refine ⟨N, w.drawn + 1, Builtin.zeroCells z (N - (len + n)), hN, by simp [Builtin.zeroCells], ?_⟩
  have c1 : ∀ b : Bool, ¬ (((len + n : Nat) : Int) > IntKind.i64.max ∧ (b = true ∨ inf.bytes = 0)) := by
    intro b hh
    have : IntKind.i64.max = 9223372036854775807 := rfl
    rw [this] at hh
    omega
  have c2 : ¬ (Builtin.nextslicecap (len + n) cap * inf.bytes > 2 ^ 48) := by
    have h1 := nextslicecap_le hgt
    have h2 := Nat.mul_le_mul_right by_ h1
    rw [hinfb]; omega
  have c3 : ¬ (len + n ≤ cap) := by omega
  unfold Builtin.append_
  simp only [ht, ha0, ha1, Sem.run_bind, run_underlying hu, Result.andThen_ok, tsz_run hs]
  rcases hzt with h0 | ⟨t, d, h0, h1, h2⟩
  · simp only [h0, Sem.run_bind, Sem.run_pure, Result.andThen_ok, Bool.false_eq_true, if_false, hn]
    rw [if_neg c3]
    simp only [Sem.run_bind, hti, Result.andThen_ok]
    rw [if_neg (by simpa using c1 false)]
    simp only [Sem.run_bind, hti, Result.andThen_ok]
    rw [if_neg c2]
    simp only [Sem.run_bind, hti, Result.andThen_ok, hch, run_askRoom, hold _ (heap_drawnTo w _), Bool.not_false, if_true, hnew _ (heap_drawnTo w _), hzrun, hv, newRow, run_newObj, Sem.run_pure]
    rfl
  · simp only [h0, Sem.run_bind, Sem.run_pure, run_underlying h1, Result.andThen_ok]
    cases d <;> first | exact absurd rfl (h2 _) | skip
    all_goals
      simp only [Bool.false_eq_true, if_false, Sem.run_bind, hn, Result.andThen_ok]
      rw [if_neg c3]
      simp only [Sem.run_bind, hti, Result.andThen_ok]
      rw [if_neg (by simpa using c1 false)]
      simp only [Sem.run_bind, hti, Result.andThen_ok]
      rw [if_neg c2]
      simp only [Sem.run_bind, hti, Result.andThen_ok, hch, run_askRoom, hold _ (heap_drawnTo w _), Bool.not_false, if_true, hnew _ (heap_drawnTo w _), hzrun, hv, newRow, run_newObj, Sem.run_pure]
      rfl
theorem run_append_new_z {st elem : TypeId} {es by_ n len cap : Nat} {base : Option Addr} {k : IntKind} {ts : Array TypeId} {ty : TypeId} {args : Array Value} {old : Array Value}
    {z : Array Value} {t : TypeId} {q : IntKind} (ht : ts[0]? = some st) (h0 : ts[1]? = some t) (h1 : P.underlying t = some (.int q))
    (ha0 : args[0]? = some (.slice base len cap)) (ha1 : args[1]? = some (.int k (n : Int))) (hu : P.underlying st = some (.slice elem))
    (hs : tsz P elem = some es) (hb : bytesOf? P elem = some by_) (hz : zeroA P elem = some z) (hzs : z.size = es) (hroom : roomy (len + n) es by_ = true) (hgt : cap < len + n) (hn1 : n ≤ 2 ^ 40) (hn2 : n * by_ ≤ 2 ^ 48)
    (hold : ∀ w', w'.heap = w.heap → (Builtin.firstCells es len (.slice base len cap)).run P w' = .ok old w') :
    ∃ (newCap d : Nat) (rest : Array Value), len + n ≤ newCap ∧ rest.size = (newCap - (len + n)) * z.size ∧
      (Builtin.append_ ts ty args).run P w = .ok (.slice (some ⟨w.heap.size, 0, none⟩) (len + n) newCap) ((World.drawnTo w d).alloc (.cells (old ++ (zerosOf z (n * es)).toArray ++ rest) elem)) := by
  obtain ⟨_, v, hv, hzrun⟩ := zeroA_run hz ⟨fun _ => none, 0⟩
  simp only [roomy, Bool.and_eq_true] at hroom
  have r1 : len + n ≤ 2 ^ 40 := by simpa using hroom.1.1.1
  have r2 : (2 * (len + n) + 192) * by_ ≤ 2 ^ 48 := by simpa using hroom.1.1.2
  have r3 : 0 < by_ := by have := hroom.1.2; rw [nblt] at this; simpa using this
  have r4 : 0 < es := by have := hroom.2; rw [nblt] at this; simpa using this
  obtain ⟨inf, hinf, hinfb⟩ := info_of_bytes hb
  have hti : ∀ w', (typeInfo elem).run P w' = .ok inf w' := fun w' => run_typeInfo hinf
  obtain ⟨N, hN, hch⟩ : ∃ N, len + n ≤ N ∧ (choose (Question.appendCap (len + n) cap elem)).run P w = .ok N (World.drawnTo w (w.drawn + 1)) :=
    ⟨_, Nat.le_add_right _ _, by simp only [run_choose]; rfl⟩
  refine ⟨N, w.drawn + 1, Builtin.zeroCells z (N - (len + n)), hN, by simp [Builtin.zeroCells], ?_⟩
  have c1 : ∀ b : Bool, ¬ (((len + n : Nat) : Int) > IntKind.i64.max ∧ (b = true ∨ inf.bytes = 0)) := by
    intro b hh
    have : IntKind.i64.max = 9223372036854775807 := rfl
    rw [this] at hh
    omega
  have c2 : ¬ (Builtin.nextslicecap (len + n) cap * inf.bytes > 2 ^ 48) := by
    have h1 := nextslicecap_le hgt
    have h2 := Nat.mul_le_mul_right by_ h1
    rw [hinfb]; omega
  have c3 : ¬ (len + n ≤ cap) := by omega
  have c4 : ¬ ((n : Int) < 0) := by omega
  have c5 : ¬ ((n : Int) * (inf.bytes : Int) > 2 ^ 48) := by
    have : ((n * by_ : Nat) : Int) ≤ 2 ^ 48 := by exact_mod_cast hn2
    push_cast at this
    rw [hinfb]; omega
  have hnew : ∀ w' : World, (if n * es = 0 then pure #[] else do pure (Builtin.zeroCells (← zeroValue elem).cells n) : Sem (Array Value)).run P w' = .ok (zerosOf z (n * es)).toArray w' := by
    intro w'
    by_cases h0 : n * es = 0
    · rw [if_pos h0, h0]; rfl
    · rw [if_neg h0]
      simp only [Sem.run_bind, hzrun, Result.andThen_ok, Sem.run_pure, hv, Builtin.zeroCells]
      rw [hzs]
      have := zerosOf_arr z (n * es) (by omega)
      rw [← this, hzs]
  unfold Builtin.append_
  simp only [ht, ha0, ha1, Sem.run_bind, run_underlying hu, Result.andThen_ok, tsz_run hs]
  simp only [h0, Sem.run_bind, Sem.run_pure, run_underlying h1, Result.andThen_ok, if_true, asInt, asIntOf, wrap64_nat (n := n) (by omega)]
  rw [if_neg c4]
  simp only [Sem.run_bind, hti, Result.andThen_ok]
  rw [if_neg c5]
  simp only [Sem.run_bind, Sem.run_pure, Result.andThen_ok, Int.toNat_natCast]
  rw [if_neg c3]
  simp only [Sem.run_bind, hti, Result.andThen_ok]
  rw [if_neg (by simpa using c1 true)]
  simp only [Sem.run_bind, hti, Result.andThen_ok]
  rw [if_neg c2]
  simp only [Sem.run_bind, hti, Result.andThen_ok, hch, run_askRoom, hold _ (heap_drawnTo w _), Bool.not_true, Bool.false_eq_true, if_false]
  rw [hnew (World.drawnTo w (w.drawn + 1))]
  simp only [Result.andThen_ok, hzrun, hv, newRow, run_newObj, Sem.run_pure, Sem.run_bind]
  rfl
/-- what stands behind an append for which there is room -/
def inPlace (es len n cap : Nat) (base : Option Addr) (new : Array Value) : Sem Value := do
  if let some a := base then storeCells (a.add (len * es)) new.toList
  pure (.slice base (len + n) cap)
theorem run_append_in {st elem : TypeId} {es n len cap : Nat} {base : Option Addr} {x : Value} {ts : Array TypeId} {ty : TypeId} {args : Array Value} {new : Array Value}
    (ht : ts[0]? = some st) (hzt : ts[1]? = none ∨ ∃ t d, ts[1]? = some t ∧ P.underlying t = some d ∧ ∀ k, d ≠ .int k)
    (ha0 : args[0]? = some (.slice base len cap)) (ha1 : args[1]? = some x) (hu : P.underlying st = some (.slice elem)) (hs : tsz P elem = some es) (hle : len + n ≤ cap)
    (hn : ∀ w', (Builtin.lenOf x).run P w' = .ok n w') (hnew : ∀ w', w'.heap = w.heap → (Builtin.firstCells es n x).run P w' = .ok new w') :
    (Builtin.append_ ts ty args).run P w = (inPlace es len n cap base new).run P w := by
  unfold Builtin.append_ inPlace
  simp only [ht, ha0, ha1, Sem.run_bind, run_underlying hu, Result.andThen_ok, tsz_run hs]
  rcases hzt with h0 | ⟨t, d, h0, h1, h2⟩
  · simp only [h0, Sem.run_bind, Sem.run_pure, Result.andThen_ok, Bool.false_eq_true, if_false, hn]
    rw [if_pos hle]
    simp only [Sem.run_bind, Bool.not_false, if_true, hnew w rfl, Result.andThen_ok]
    cases base <;> simp
  · simp only [h0, Sem.run_bind, Sem.run_pure, run_underlying h1, Result.andThen_ok]
    cases d <;> first | exact absurd rfl (h2 _) | skip
    all_goals
      simp only [Bool.false_eq_true, if_false, Sem.run_bind, hn, Result.andThen_ok]
      rw [if_pos hle]
      simp only [Sem.run_bind, Bool.not_false, if_true, hnew w rfl, Result.andThen_ok]
      cases base <;> simp
theorem run_append_in_z {st elem : TypeId} {es by_ n len cap : Nat} {base : Option Addr} {k : IntKind} {ts : Array TypeId} {ty : TypeId} {args : Array Value}
    {z : Array Value} {t : TypeId} {q : IntKind} (ht : ts[0]? = some st) (h0 : ts[1]? = some t) (h1 : P.underlying t = some (.int q))
    (ha0 : args[0]? = some (.slice base len cap)) (ha1 : args[1]? = some (.int k (n : Int))) (hu : P.underlying st = some (.slice elem))
    (hs : tsz P elem = some es) (hb : bytesOf? P elem = some by_) (hz : zeroA P elem = some z) (hzs : z.size = es) (hes : 0 < es) (hle : len + n ≤ cap) (hn1 : n ≤ 2 ^ 40) (hn2 : n * by_ ≤ 2 ^ 48) :
    (Builtin.append_ ts ty args).run P w = (inPlace es len n cap base (zerosOf z (n * es)).toArray).run P w := by
  obtain ⟨_, v, hv, hzrun⟩ := zeroA_run hz ⟨fun _ => none, 0⟩
  obtain ⟨inf, hinf, hinfb⟩ := info_of_bytes hb
  have hti : ∀ w', (typeInfo elem).run P w' = .ok inf w' := fun w' => run_typeInfo hinf
  have c4 : ¬ ((n : Int) < 0) := by omega
  have c5 : ¬ ((n : Int) * (inf.bytes : Int) > 2 ^ 48) := by
    have : ((n * by_ : Nat) : Int) ≤ 2 ^ 48 := by exact_mod_cast hn2
    push_cast at this
    rw [hinfb]; omega
  unfold Builtin.append_ inPlace
  simp only [ht, ha0, ha1, Sem.run_bind, run_underlying hu, Result.andThen_ok, tsz_run hs]
  simp only [h0, Sem.run_bind, Sem.run_pure, run_underlying h1, Result.andThen_ok, if_true, asInt, asIntOf, wrap64_nat (n := n) (by omega)]
  rw [if_neg c4]
  simp only [Sem.run_bind, hti, Result.andThen_ok]
  rw [if_neg c5]
  simp only [Sem.run_bind, Sem.run_pure, Result.andThen_ok, Int.toNat_natCast]
  rw [if_pos hle]
  simp only [Sem.run_bind, Bool.not_true, Bool.false_eq_true, if_false]
  by_cases h0 : n * es = 0
  · rw [if_pos h0, h0]
    simp only [Sem.run_pure, Result.andThen_ok]
    cases base <;> simp [zerosOf]
  · rw [if_neg h0]
    simp only [Sem.run_bind, hzrun, Result.andThen_ok, Sem.run_pure, hv, Builtin.zeroCells]
    rw [hzs]
    have := zerosOf_arr z (n * es) (by omega)
    rw [hzs] at this
    cases base with
    | none => simp
    | some a =>
      simp only [Sem.run_bind, this]
end
end
end Go.Idl

/- The ideal machine, part K: append, as the ideal machine carries it out. -/
namespace Go.Idl
open Go
noncomputable section

def cellsT (r : Row) (o m : Nat) : Option (T Value) :=
  bif Nat.beq o 0 then some r.cells else
    match tsub r.cells o m with
    | some l => some (T.ofL .e 0 l)
    | none => none
theorem cellsT_spec {r : Row} {o m : Nat} {t : T Value} (h : cellsT r o m = some t) : ∀ i, i < m → t.get i = r.cells.get (o + i) := by
  unfold cellsT at h
  intro i hi
  cases ho : Nat.beq o 0 with
  | true =>
    rw [ho] at h
    simp only [cond_true, Option.some.injEq] at h
    have ho : o = 0 := by simpa using ho
    subst h; subst ho; simp
  | false =>
    rw [ho] at h
    simp only [cond_false] at h
    split at h <;> try (cases h; done)
    rename_i l hl
    cases h
    obtain ⟨h1, h2⟩ := tsub_spec _ _ _ _ hl
    rw [T.get_ofL, if_pos (by omega), h2 i hi]; simp
/-- what is appended: how many elements, and their cells -/
def appd (P : Program) (σ : Heap) (es by_ : Nat) (z : Array Value) (zt : Option TypeId) (x : Value) : Option (Nat × List Value) :=
  match (match zt with | some t => (match P.underlying t with | some (.int _) => some true | some _ => some false | none => none) | none => some false) with
  | some true =>
    match x with
    | .int _ (.ofNat n) => bif Nat.ble n (2 ^ 40) && Nat.ble (n * by_) (2 ^ 48) then some (n, zerosOf z (n * es)) else none
    | _ => none
  | some false =>
    match srcLen x with
    | some n =>
      match srcCells σ es n x with
      | some vs => bif Nat.beq vs.length (n * es) then some (n, vs) else none
      | none => none
    | none => none
  | none => none
def openAt (id es n : Nat) : Value := .slice (some ⟨id, 0, some es⟩) n n
def rowOf (size : Nat) (t : T Value) : AObj := .row { size := size, cells := t, ro := false, par := none, kid := none }
/-- is an append just the making of a copy? -/
def fastA (P : Program) (σ : Heap) (es by_ : Nat) (zt : Option TypeId) (base : Option Addr) (len cap : Nat) (x : Value) : Option (Value × Heap) :=
  match base, (match zt with | some t => (match P.underlying t with | some (.int _) => true | some _ => false | none => true) | none => false), x with
  | some ⟨_, _, some _⟩, _, _ => none
  | _, true, _ => none
  | _, false, .slice (some ⟨b2, 0, _⟩) n _ =>
    bif Nat.beq len 0 && Nat.blt cap n && roomy n es by_ then
      match σ.row? b2 with
      | some r2 => bif Nat.ble (n * es) r2.size then some (openAt σ.next es n, σ.new (rowOf (n * es) r2.cells)) else none
      | none => none
    else none
  | _, _, _ => none
def slowA (P : Program) (σ : Heap) (es by_ : Nat) (z : Array Value) (zt : Option TypeId) (base : Option Addr) (len cap : Nat) (x : Value) : Option (Value × Heap) :=
  match appd P σ es by_ z zt x with
  | none => none
  | some (n, vs) =>
    bif Nat.ble (len + n) cap then
      bif vs.isEmpty then some (.slice base (len + n) cap, σ)
      else match base with
        | some ⟨b, o, sp⟩ =>
          match σ.storeL b (o + len * es) vs with
          | some σ' => some (.slice (some ⟨b, o, sp⟩) (len + n) cap, σ')
          | none => none
        | none => none
    else bif roomy (len + n) es by_ then
      match base with
      | none => bif Nat.beq len 0 then some (openAt σ.next es n, σ.new (rowOf (n * es) (T.ofL .e 0 vs))) else none
      | some ⟨b, o, sp⟩ =>
        match σ.row? b with
        | none => none
        | some r =>
          bif Nat.ble (o + len * es) r.size then
            match cellsT r o (len * es) with
            | none => none
            | some t0 =>
              match sp with
              | none => some (openAt σ.next es (len + n), σ.new (rowOf ((len + n) * es) (T.ofL t0 (len * es) vs)))
              | some k =>
                bif Nat.beq k es && !r.ro && vs.all cellish then
                  some (openAt σ.next es (len + n), σ.grow b r (Nat.ble r.size (o + len * es)) ((len + n) * es) (T.ofL t0 (len * es) vs))
                else none
          else none
    else none
def appendA (P : Program) (σ : Heap) (ts : Array TypeId) (args : Array Value) : Option (Value × Heap) :=
  match ts[0]?, args[0]?, args[1]? with
  | some st, some (Value.slice base len cap), some x =>
    match P.underlying st with
    | some (.slice elem) =>
      match tsz P elem, bytesOf? P elem, zeroA P elem with
      | some es, some by_, some z =>
        bif Nat.beq z.size es && Nat.blt 0 es then
          match fastA P σ es by_ ts[1]? base len cap x with
          | some r => some r
          | none => slowA P σ es by_ z ts[1]? base len cap x
        else none
      | _, _, _ => none
    | _ => none
  | _, _, _ => none

section
variable {P : Program} {ι : Inj} {σ : Heap} {w : World}
/-- what a write to the heap comes to -/
structure WDone (P : Program) (ι : Inj) (w : World) (s : Sem Value) (u : Value) (σ' : Heap) : Prop where
  out : ∃ u' w' ι', s.run P w = .ok u' w' ∧ Kept ι w ι' w' ∧ Rel ι' σ' w' ∧ VRel ι' u u'
theorem Kept.drawnTo (ι : Inj) (w : World) (d : Nat) : Kept ι w ι (World.drawnTo w d) := ⟨.refl _, Nat.le_refl _, fun _ _ h => ⟨rfl, h⟩, rfl, rfl, rfl, ι.more⟩
theorem Rel.drawnTo (h : Rel ι σ w) (d : Nat) : Rel ι σ (World.drawnTo w d) := h.heap rfl
theorem openAt_rel {ι : Inj} {id es n N B z : Nat} (h : ι id = some ⟨B, 0, z, false⟩) (hN : n ≤ N) (hz : N * es ≤ z) : VRel ι (openAt id es n) (.slice (some ⟨B, 0, none⟩) n N) :=
  VRel.open_ (o := 0) n n N h hN (by simpa using hz)
theorem size_rest {need n len es N : Nat} {old new rest : Array Value} {z : Array Value} (ho : old.size = len * es) (hnw : new.size = n * es) (hr : rest.size = (N - need) * z.size) (hz : z.size = es) (hneed : need = len + n) (hN : need ≤ N) :
    N * es ≤ (old ++ new ++ rest).size := by
  simp only [Array.size_append, ho, hnw, hr, hz]
  have h1 : N = len + n + (N - need) := by omega
  have h3 : N * es = (len + n + (N - need)) * es := congrArg (· * es) h1
  have h2 : (len + n + (N - need)) * es = len * es + n * es + (N - need) * es := by rw [Nat.add_mul, Nat.add_mul]
  omega
/-- a row that is laid anew -/
theorem append_new (h : Rel ι σ w) {es len n N d : Nat} {z : Array Value} {ts : Array TypeId} {ty elem : TypeId} {args : Array Value} {old new rest : Array Value} {t : T Value}
    (hrun : (Builtin.append_ ts ty args).run P w = .ok (.slice (some ⟨w.heap.size, 0, none⟩) (len + n) N) ((World.drawnTo w d).alloc (.cells (old ++ new ++ rest) elem)))
    (hN : len + n ≤ N) (hr : rest.size = (N - (len + n)) * z.size) (hz : z.size = es) (ho : old.size = len * es) (hnw : new.size = n * es)
    (ht : ∀ i, i < (len + n) * es → ∃ v v', t.get i = some v ∧ (old ++ new)[i]? = some v' ∧ VRel ι v v') :
    WDone P ι w (Builtin.append_ ts ty args) (openAt σ.next es (len + n)) (σ.new (rowOf ((len + n) * es) t)) := by
  have hle := Inj.le_add (ι := ι) (b := σ.next) ⟨w.heap.size, 0, (old ++ new ++ rest).size, false⟩ h.next_none
  have hR := (h.drawnTo d).new (z := (old ++ new ++ rest).size) (o := rowOf ((len + n) * es) t) (o' := .cells (old ++ new ++ rest) elem) (by
    refine ⟨rfl, old ++ new ++ rest, elem, (0, 0), by simp only [World.alloc]; simp, fun _ => .inl rfl, rfl, ?_, fun i hi => ?_⟩
    · simp only [Array.size_append, ho, hnw, Nat.add_mul, Nat.zero_add]; omega
    · obtain ⟨v, v', h1, h2, h3⟩ := ht i hi
      refine ⟨v, v', h1, ?_, h3.mono (by simpa using hle)⟩
      have : i < (old ++ new).size := by simp only [Array.size_append, ho, hnw, ← Nat.add_mul]; exact hi
      simp only [Nat.zero_add]
      rw [Array.getElem?_append_left this]; exact h2)
  exact ⟨_, _, _, hrun, (Kept.drawnTo ι w d).trans hR.2, hR.1, openAt_rel (Inj.add_same _ _ _) hN (size_rest ho hnw hr hz rfl hN)⟩
/-- cells of two lists, one behind the other -/
theorem two_lists {es len n : Nat} {t0 : T Value} {vs : List Value} {old new : Array Value} (ho : old.size = len * es) (hnw : new.size = n * es) (hvs : LRel ι vs new.toList)
    (h0 : ∀ i, i < len * es → ∃ v v', t0.get i = some v ∧ old[i]? = some v' ∧ VRel ι v v') :
    ∀ i, i < (len + n) * es → ∃ v v', (T.ofL t0 (len * es) vs).get i = some v ∧ (old ++ new)[i]? = some v' ∧ VRel ι v v' := by
  intro i hi
  have hvl : vs.length = n * es := by rw [hvs.1]; simpa using hnw
  rw [Nat.add_mul] at hi
  by_cases hlt : i < len * es
  · obtain ⟨v, v', h1, h2, h3⟩ := h0 i hlt
    refine ⟨v, v', ?_, ?_, h3⟩
    · rw [T.get_ofL, if_neg (by omega)]; exact h1
    · rw [Array.getElem?_append_left (by omega)]; exact h2
  · have hj : i - len * es < vs.length := by omega
    have hj' : i - len * es < new.size := by omega
    refine ⟨vs[i - len * es], new[i - len * es], ?_, ?_, hvs.2 (i - len * es) _ _ (by simp [hj]) (by simp [hj'])⟩
    · rw [T.get_ofL, if_pos (by omega)]; simp [hj]
    · rw [Array.getElem?_append_right (by omega), ho]; simp [hj']
/-- the cells of a slice that grows -/
theorem old_cells (h : Rel ι σ w) {b o es len : Nat} {sp : Option Nat} {r : Row} {t0 : T Value} {cap : Nat} {s' : Value} (hr : σ.row? b = some r) (hle : o + len * es ≤ r.size) (ht : cellsT r o (len * es) = some t0)
    (hs : VRel ι (.slice (some ⟨b, o, sp⟩) len cap) s') :
    ∃ (p : Addr) (cap' : Nat) (old : Array Value), s' = .slice (some p) len cap' ∧ cap ≤ cap' ∧ old.size = len * es ∧ (∀ i, i < len * es → ∃ v v', t0.get i = some v ∧ old[i]? = some v' ∧ VRel ι v v') ∧
      (∀ w', w'.heap = w.heap → (Builtin.firstCells es len s').run P w' = .ok old w') ∧ (sp = none → cap' = cap) ∧
      ((∃ l, ι b = some l ∧ p = ⟨l.blk, l.base + o, none⟩ ∧ (∀ k, sp = some k → l.base + o + cap' * k ≤ l.csz)) ∨ (len = 0 ∧ cap' = 0)) := by
  have hrr := Heap.row?_eq hr
  obtain ⟨l, hl, hlr, ⟨c, e, fr, h1, h2, hz, h3, h4⟩⟩ := h.row hrr
  have key : ∃ old : Array Value, old.size = len * es ∧ (∀ i, i < len * es → ∃ v v', t0.get i = some v ∧ old[i]? = some v' ∧ VRel ι v v') ∧
      ∀ w', w'.heap = w.heap → (loadCells ⟨l.blk, l.base + o, none⟩ (len * es)).run P w' = .ok old w' := by
    refine ⟨c.extract (l.base + o) (l.base + o + len * es), by simp; omega, fun i hi => ?_, fun w' hw' => run_loadCells (by rw [hw']; exact h1) (by omega)⟩
    obtain ⟨v, v', k1, k2, k3⟩ := h4 (o + i) (by omega)
    refine ⟨v, v', (cellsT_spec ht i hi).trans k1, ?_, k3⟩
    rw [Array.getElem?_extract, if_pos (by omega), ← k2]
    congr 1; omega
  obtain ⟨old, k1, k2, k3⟩ := key
  cases hs with
  | slice len cap hb =>
    rw [hl] at hb; cases hb
    exact ⟨_, cap, old, rfl, Nat.le_refl _, k1, k2, fun w' hw' => k3 w' hw', fun _ => rfl, .inl ⟨l, hl, rfl, fun k hk => by cases hk⟩⟩
  | open_ len cap cap' hb hc hcz =>
    rw [hl] at hb; cases hb
    exact ⟨_, cap', old, rfl, hc, k1, k2, fun w' hw' => k3 w' hw', fun hk => by (cases hk), .inl ⟨l, hl, rfl, fun k hk => by cases hk; exact hcz⟩⟩
  | zero p hb =>
    refine ⟨p, 0, #[], rfl, Nat.le_refl _, by simp, fun i hi => by simp at hi, fun w' _ => ?_, fun hk => by (cases hk), .inr ⟨rfl, rfl⟩⟩
    simp only [Builtin.firstCells, Nat.zero_mul, run_loadCells0]
theorem zt_false {zt : Option TypeId} (h : (match zt with | some t => (match P.underlying t with | some (.int _) => some true | some _ => some false | none => none) | none => some false) = some false) :
    zt = none ∨ ∃ t d, zt = some t ∧ P.underlying t = some d ∧ ∀ k, d ≠ .int k := by
  cases zt with
  | none => exact .inl rfl
  | some t =>
    simp only at h
    cases hd : P.underlying t with
    | none => simp [hd] at h
    | some d =>
      rw [hd] at h
      refine .inr ⟨t, d, rfl, hd, fun k hk => ?_⟩
      subst hk; simp at h
theorem zt_true {zt : Option TypeId} (h : (match zt with | some t => (match P.underlying t with | some (.int _) => some true | some _ => some false | none => none) | none => some false) = some true) :
    ∃ t q, zt = some t ∧ P.underlying t = some (.int q) := by
  cases zt with
  | none => simp at h
  | some t =>
    simp only at h
    cases hd : P.underlying t with
    | none => simp [hd] at h
    | some d =>
      rw [hd] at h
      cases d <;> simp at h
      exact ⟨t, _, rfl, hd⟩
theorem append_facts (h : Rel ι σ w) {st elem ty : TypeId} {es by_ n : Nat} {z : Array Value} {ts : Array TypeId} {args' : Array Value} {x x' : Value} {vs : List Value} (ht : ts[0]? = some st)
    (hu : P.underlying st = some (.slice elem)) (hs : tsz P elem = some es) (hb : bytesOf? P elem = some by_) (hz : zeroA P elem = some z) (hzs : z.size = es) (hes : 0 < es)
    (ha : appd P σ es by_ z ts[1]? x = some (n, vs)) (hx : VRel ι x x') (a1 : args'[1]? = some x') :
    ∃ new : Array Value, new.size = n * es ∧ LRel ι vs new.toList ∧
      (∀ base len cap, args'[0]? = some (.slice base len cap) → len + n ≤ cap → (Builtin.append_ ts ty args').run P w = (inPlace es len n cap base new).run P w) ∧
      (∀ base len cap old, args'[0]? = some (.slice base len cap) → cap < len + n → roomy (len + n) es by_ = true → (∀ w' : World, w'.heap = w.heap → (Builtin.firstCells es len (.slice base len cap)).run P w' = .ok old w') →
        ∃ (N d : Nat) (rest : Array Value), len + n ≤ N ∧ rest.size = (N - (len + n)) * z.size ∧
          (Builtin.append_ ts ty args').run P w = .ok (.slice (some ⟨w.heap.size, 0, none⟩) (len + n) N) ((World.drawnTo w d).alloc (.cells (old ++ new ++ rest) elem))) := by
  unfold appd at ha
  split at ha <;> try (cases ha; done)
  · rename_i hzt
    obtain ⟨t, q, h0, h1⟩ := zt_true hzt
    split at ha <;> try (cases ha; done)
    rename_i k m
    cases hg : (Nat.ble m (2 ^ 40) && Nat.ble (m * by_) (2 ^ 48)) with
    | false => rw [hg] at ha; cases ha
    | true =>
      rw [hg] at ha
      simp only [cond_true, Option.some.injEq, Prod.mk.injEq] at ha
      obtain ⟨rfl, rfl⟩ := ha
      simp only [Bool.and_eq_true] at hg
      have g1 : m ≤ 2 ^ 40 := by simpa using hg.1
      have g2 : m * by_ ≤ 2 ^ 48 := by simpa using hg.2
      cases hx
      have hzr := (zeroA_run hz ι).1
      refine ⟨(zerosOf z (m * es)).toArray, by simp [zerosOf], by simpa using zerosOf_rel hzr _, fun base len cap a0 hle => ?_, fun base len cap old a0 hlt hroom hold => ?_⟩
      · exact run_append_in_z ht h0 h1 a0 a1 hu hs hb hz hzs hes hle g1 g2
      · exact run_append_new_z ht h0 h1 a0 a1 hu hs hb hz hzs hroom hlt g1 g2 hold
  · rename_i hzt
    have hzt := zt_false hzt
    split at ha <;> try (cases ha; done)
    rename_i n' hn
    split at ha <;> try (cases ha; done)
    rename_i vs' hvs
    cases hg : Nat.beq vs'.length (n' * es) with
    | false => rw [hg] at ha; cases ha
    | true =>
      rw [hg] at ha
      simp only [cond_true, Option.some.injEq, Prod.mk.injEq] at ha
      obtain ⟨rfl, rfl⟩ := ha
      have hg : vs'.length = n' * es := by simpa using hg
      obtain ⟨new, k1, k2⟩ := srcCells_rel h hx hvs
      refine ⟨new, by rw [← hg, k1.1]; simp, k1, fun base len cap a0 hle => ?_, fun base len cap old a0 hlt hroom hold => ?_⟩
      · exact run_append_in ht hzt a0 a1 hu hs hle (srcLen_rel hx hn) k2
      · exact run_append_new ht hzt a0 a1 hu hs hb hz hroom hlt (srcLen_rel hx hn) k2 hold
theorem ARel.get {ι : Inj} {a a' : Array Value} (h : ARel ι a a') {i : Nat} {v : Value} (hv : a[i]? = some v) : ∃ v', a'[i]? = some v' ∧ VRel ι v v' := by
  have hlt : i < a.size := (Array.getElem?_eq_some_iff.1 hv).1
  have hg : a'[i]? = some (a'[i]'(by have := h.1; omega)) := by simp
  exact ⟨_, hg, h.2 i _ _ hv hg⟩
theorem slice_inv {base : Option Addr} {len cap : Nat} {s' : Value} (h : VRel ι (.slice base len cap) s') : ∃ base' cap', s' = .slice base' len cap' ∧ cap ≤ cap' ∧ (base = none → base' = none ∧ cap' = cap) ∧
    (∀ b o, base = some ⟨b, o, none⟩ → cap' = cap) := by
  cases h with
  | nilslice len cap => exact ⟨_, _, rfl, Nat.le_refl _, fun _ => ⟨rfl, rfl⟩, fun b o hb => by cases hb⟩
  | slice len cap hb => exact ⟨_, _, rfl, Nat.le_refl _, fun hb => by (cases hb), fun b o hb => rfl⟩
  | open_ len cap cap' hb hc hz => exact ⟨_, _, rfl, hc, fun hb => by (cases hb), fun b o hb => by cases hb⟩
  | zero p hb => exact ⟨_, _, rfl, Nat.le_refl _, fun hb => by (cases hb), fun b o hb => by cases hb⟩
theorem fastA_sound (h : Rel ι σ w) {st elem ty : TypeId} {es by_ len cap : Nat} {z : Array Value} {ts : Array TypeId} {args' : Array Value} {base : Option Addr} {x x' s' u : Value} {σ' : Heap}
    (ht : ts[0]? = some st) (hu : P.underlying st = some (.slice elem)) (hs : tsz P elem = some es) (hb : bytesOf? P elem = some by_) (hz : zeroA P elem = some z) (hzs : z.size = es) (_hes : 0 < es)
    (hf : fastA P σ es by_ ts[1]? base len cap x = some (u, σ')) (hsr : VRel ι (.slice base len cap) s') (hx : VRel ι x x') (a0 : args'[0]? = some s') (a1 : args'[1]? = some x') :
    WDone P ι w (Builtin.append_ ts ty args') u σ' := by
  unfold fastA at hf
  split at hf <;> try (cases hf; done)
  rename_i base _ _ _ b2 sp n c2 hbase hzt
  cases hg : (Nat.beq len 0 && Nat.blt cap n && roomy n es by_) with
  | false => rw [hg] at hf; cases hf
  | true =>
    rw [hg] at hf
    simp only [cond_true] at hf
    simp only [Bool.and_eq_true] at hg
    have g0 : len = 0 := by simpa using hg.1.1
    have g1 : cap < n := by have := hg.1.2; rw [nblt] at this; simpa using this
    have g2 := hg.2
    subst g0
    split at hf <;> try (cases hf; done)
    rename_i r2 hr2
    cases hle : Nat.ble (n * es) r2.size with
    | false => rw [hle] at hf; cases hf
    | true =>
      rw [hle] at hf
      simp only [cond_true, Option.some.injEq, Prod.mk.injEq] at hf
      obtain ⟨rfl, rfl⟩ := hf
      have hle : n * es ≤ r2.size := by simpa using hle
      have hzt' : ts[1]? = none ∨ ∃ t d, ts[1]? = some t ∧ P.underlying t = some d ∧ ∀ k, d ≠ .int k := by
        apply zt_false
        cases hz1 : ts[1]? with
        | none => rfl
        | some t =>
          rw [hz1] at hzt
          simp only at hzt ⊢
          cases hd : P.underlying t with
          | none => rw [hd] at hzt; simp at hzt
          | some d => rw [hd] at hzt; cases d <;> simp_all
      obtain ⟨base', cap', rfl, hc, hn, he⟩ := slice_inv hsr
      have hcap : cap' = cap := by
        cases base with
        | none => exact (hn rfl).2
        | some a =>
          obtain ⟨b, o, sp'⟩ := a
          cases sp' with
          | none => exact he b o rfl
          | some k => exact absurd rfl (hbase b o k)
      have hlt : cap' < 0 + n := by omega
      -- the cells that are copied
      have hn0 : n ≠ 0 := by omega
      obtain ⟨p, c2', old, rfl, _, k1, k2, k3, _, _⟩ := old_cells h hr2 (o := 0) (t0 := r2.cells) (len := n) (es := es) (by simpa using hle) rfl hx
      have hold : ∀ w' : World, w'.heap = w.heap → (Builtin.firstCells es 0 (.slice base' 0 cap')).run P w' = .ok #[] w' := by
        intro w' _
        cases base' with
        | none => rfl
        | some a => simp only [Builtin.firstCells, Nat.zero_mul, run_loadCells0]
      obtain ⟨N, d, rest, q1, q2, q3⟩ := run_append_new (ty := ty) (w := w) (n := n) (x := .slice (some p) n c2') ht hzt' a0 a1 hu hs hb hz (by simpa using g2) hlt (fun w' => rfl) k3 hold
      have := append_new (ι := ι) (t := r2.cells) (old := #[]) (new := old) h q3 q1 q2 hzs (by simp) k1 (fun i hi => by
        simp only [Nat.zero_add] at hi
        obtain ⟨v, v', j1, j2, j3⟩ := k2 i hi
        exact ⟨v, v', j1, by simpa using j2, j3⟩)
      simpa using this
/-- an append for which there is room -/
theorem inPlace_sound (h : Rel ι σ w) {es len n cap : Nat} {base : Option Addr} {vs : List Value} {new : Array Value} {s' u : Value} {σ' : Heap} (hes : 0 < es) (hnw : new.size = n * es) (hvs : LRel ι vs new.toList)
    (hle : len + n ≤ cap) (hsr : VRel ι (.slice base len cap) s')
    (hf : (bif vs.isEmpty then some (.slice base (len + n) cap, σ)
      else match base with
        | some ⟨b, o, sp⟩ =>
          match σ.storeL b (o + len * es) vs with
          | some σ' => some (.slice (some ⟨b, o, sp⟩) (len + n) cap, σ')
          | none => none
        | none => none) = some (u, σ')) {base' : Option Addr} {cap' : Nat} (hs' : s' = .slice base' len cap') :
    ∃ u' w' ι', (inPlace es len n cap' base' new).run P w = .ok u' w' ∧ Kept ι w ι' w' ∧ Rel ι' σ' w' ∧ VRel ι' u u' := by
  have hvl : vs.length = n * es := by rw [hvs.1]; simpa using hnw
  cases he : vs.isEmpty with
  | true =>
    rw [he] at hf
    simp only [cond_true, Option.some.injEq, Prod.mk.injEq] at hf
    obtain ⟨rfl, rfl⟩ := hf
    have hv0 : vs = [] := by simpa using he
    subst hv0
    have hn0 : n = 0 := by
      simp only [List.length_nil] at hvl
      rcases Nat.eq_zero_or_pos n with h0 | h0
      · exact h0
      · have := Nat.mul_pos h0 hes; omega
    subst hn0
    have hnew : new = #[] := by
      apply Array.eq_empty_of_size_eq_zero; simpa using hnw
    subst hnew
    refine ⟨.slice base' (len + 0) cap', w, ι, ?_, Kept.refl _ _, h, by rw [← Nat.add_zero len] at hsr; subst hs'; simpa using hsr⟩
    cases base' <;> simp [inPlace, storeCells]
  | false =>
    rw [he] at hf
    simp only [cond_false] at hf
    split at hf <;> try (cases hf; done)
    rename_i b o sp
    split at hf <;> try (cases hf; done)
    rename_i σ1 hst
    simp only [Option.some.injEq, Prod.mk.injEq] at hf
    obtain ⟨rfl, rfl⟩ := hf
    have hv0 : vs ≠ [] := by simpa using he
    have hn0 : n ≠ 0 := by
      intro h0; subst h0
      apply hv0; apply List.eq_nil_of_length_eq_zero; simpa using hvl
    have go : ∀ (l : Loc) (cap1 : Nat), ι b = some l → s' = .slice (some ⟨l.blk, l.base + o, none⟩) len cap1 → (∀ ι', ι.le ι' → VRel ι' (.slice (some ⟨b, o, sp⟩) (len + n) cap) (.slice (some ⟨l.blk, l.base + o, none⟩) (len + n) cap1)) →
        ∃ u' w' ι', (inPlace es len n cap' base' new).run P w = .ok u' w' ∧ Kept ι w ι' w' ∧ Rel ι' σ1 w' ∧ VRel ι' (.slice (some ⟨b, o, sp⟩) (len + n) cap) u' := by
      intro l cap1 hb hs1 hrel
      rw [hs1] at hs'; cases hs'
      obtain ⟨c, e, fr, g1, g2, g3, g4, g5, g6⟩ := storeL_rel h hst hvs hb
      have hrun := run_storeCells (P := P) new.toList l.blk (l.base + (o + len * es)) 0 c e fr w g1 g2 (by simpa using g3) g4
      refine ⟨_, _, ι, ?_, g6, g5, hrel ι (.refl _)⟩
      simp only [inPlace, addr_add, Sem.run_bind]
      rw [show l.base + o + len * es = l.base + (o + len * es) by omega, hrun]
      simp
    cases hsr with
    | slice len cap hb => exact go _ _ hb rfl fun ι' hle => .slice _ _ (hle _ _ hb)
    | open_ len cap cap1 hb hc hz => exact go _ _ hb rfl fun ι' hle => .open_ _ _ _ (hle _ _ hb) hc hz
    | zero p hb => omega
theorem slowA_sound (h : Rel ι σ w) {st elem ty : TypeId} {es by_ len cap : Nat} {z : Array Value} {ts : Array TypeId} {args' : Array Value} {base : Option Addr} {x x' s' u : Value} {σ' : Heap}
    (ht : ts[0]? = some st) (hu : P.underlying st = some (.slice elem)) (hs : tsz P elem = some es) (hb : bytesOf? P elem = some by_) (hz : zeroA P elem = some z) (hzs : z.size = es) (hes : 0 < es)
    (hf : slowA P σ es by_ z ts[1]? base len cap x = some (u, σ')) (hsr : VRel ι (.slice base len cap) s') (hx : VRel ι x x') (a0 : args'[0]? = some s') (a1 : args'[1]? = some x') :
    WDone P ι w (Builtin.append_ ts ty args') u σ' := by
  unfold slowA at hf
  split at hf
  · cases hf
  rename_i n vs ha
  obtain ⟨new, hnw, hvs, hin, hgrow⟩ := append_facts (ty := ty) h ht hu hs hb hz hzs hes ha hx a1
  obtain ⟨base', cap', hs', hcc, hbn, hbe⟩ := slice_inv hsr
  have a0' := a0
  rw [hs'] at a0'
  cases hle : Nat.ble (len + n) cap with
  | true =>
    rw [hle] at hf
    simp only [cond_true] at hf
    have hle : len + n ≤ cap := by simpa using hle
    obtain ⟨u', w', ι', r1, r2, r3, r4⟩ := inPlace_sound (P := P) h hes hnw hvs hle hsr hf hs'
    exact ⟨u', w', ι', by rw [hin base' len cap' a0' (by omega)]; exact r1, r2, r3, r4⟩
  | false =>
    rw [hle] at hf
    simp only [cond_false] at hf
    have hle : cap < len + n := by rw [nble] at hle; simpa using hle
    cases hro : roomy (len + n) es by_ with
    | false => rw [hro] at hf; cases hf
    | true =>
      rw [hro] at hf
      simp only [cond_true] at hf
      split at hf
      · -- nil
        cases hl0 : Nat.beq len 0 with
        | false => rw [hl0] at hf; cases hf
        | true =>
          rw [hl0] at hf
          simp only [cond_true, Option.some.injEq, Prod.mk.injEq] at hf
          obtain ⟨rfl, rfl⟩ := hf
          have hl0 : len = 0 := by simpa using hl0
          subst hl0
          obtain ⟨rfl, rfl⟩ := hbn rfl
          obtain ⟨N, d, rest, q1, q2, q3⟩ := hgrow none 0 cap' #[] a0' hle hro (fun w' _ => rfl)
          have := append_new (ι := ι) (t := T.ofL .e 0 vs) (old := #[]) (new := new) h q3 q1 q2 hzs (by simp) hnw (by
            have := two_lists (ι := ι) (t0 := .e) (len := 0) (n := n) (es := es) (old := #[]) (by simp) hnw hvs (fun i hi => by simp at hi)
            simpa using this)
          simpa using this
      · rename_i b o sp
        split at hf
        · cases hf
        rename_i r hr
        cases hsz : Nat.ble (o + len * es) r.size with
        | false => rw [hsz] at hf; cases hf
        | true =>
          rw [hsz] at hf
          simp only [cond_true] at hf
          have hsz : o + len * es ≤ r.size := by simpa using hsz
          split at hf
          · cases hf
          rename_i t0 ht0
          obtain ⟨p, cap1, old, hs1, hc1, k1, k2, k3, k4, k5⟩ := old_cells h hr hsz ht0 hsr
          rw [hs1] at hs'; cases hs'
          have hcells := two_lists (ι := ι) k1 hnw hvs k2
          cases sp with
          | none => -- a slice whose capacity is known
            simp only [Option.some.injEq, Prod.mk.injEq] at hf
            obtain ⟨rfl, rfl⟩ := hf
            have := k4 rfl
            obtain ⟨N, d, rest, q1, q2, q3⟩ := hgrow (some p) len cap' old a0' (by omega) hro (by rw [← hs1]; exact k3)
            exact append_new (ι := ι) h q3 q1 q2 hzs k1 hnw hcells
          | some k =>
            simp only at hf
            cases hg : (Nat.beq k es && !r.ro && vs.all cellish) with
            | false => rw [hg] at hf; cases hf
            | true =>
              rw [hg] at hf
              simp only [cond_true, Option.some.injEq, Prod.mk.injEq] at hf
              obtain ⟨rfl, rfl⟩ := hf
              simp only [Bool.and_eq_true] at hg
              have hk : k = es := by simpa using hg.1.1
              have hrro : r.ro = false := by simpa using hg.1.2
              have hce := hvs.cellish hg.2
              subst hk
              by_cases hroom : len + n ≤ cap'
              · -- written on in place
                rcases k5 with ⟨l, hl, rfl, hcz⟩ | ⟨hl0, hc0⟩
                · have hcz := hcz k rfl
                  obtain ⟨l', hl', hlr, ⟨c, e, fr, g1, g2, gz, g3, g4⟩⟩ := h.row (Heap.row?_eq hr)
                  rw [hl] at hl'; cases hl'
                  have hmul : (len + n) * k ≤ cap' * k := Nat.mul_le_mul_right k hroom
                  have hmul2 : (len + n) * k = len * k + n * k := Nat.add_mul _ _ _
                  have hnl : new.toList.length = n * k := by simpa using hnw
                  -- what is appended is no aggregate
                  have hrun := run_storeCells (P := P) new.toList l.blk (l.base + (o + len * k)) 0 c e fr w g1 (g2 hrro) (by omega) hce
                  have hold : ∀ i, i < len * k → old[i]? = c[l.base + o + i]? := by
                    intro i hi
                    have e1 := k3 w rfl
                    rw [hs1] at e1
                    simp only [Builtin.firstCells] at e1
                    rw [run_loadCells g1 (by omega)] at e1
                    cases e1
                    rw [Array.getElem?_extract, if_pos (by omega)]
                  have hR := h.grow_old (o := o) (at_ := o + len * k) (keep := Nat.ble r.size (o + len * k)) (size := (len + n) * k) (t := T.ofL t0 (len * k) vs) (Heap.row?_eq hr) hrro hl (vs' := new.toList) g1 (fun hk => by simpa using hk) (by omega) (fun i hi => by
                    obtain ⟨v, v', j1, j2, j3⟩ := hcells i hi
                    refine ⟨v, v', j1, ?_, j3⟩
                    rw [get_spl]
                    by_cases hlt : i < len * k
                    · rw [if_neg (by omega), ← hold i hlt]
                      rw [Array.getElem?_append_left (by omega)] at j2; exact j2
                    · rw [if_pos (by omega)]
                      rw [Array.getElem?_append_right (by omega), k1] at j2
                      rw [← j2, Array.getElem?_toList]
                      congr 1; omega)
                  refine ⟨.slice (some ⟨l.blk, l.base + o, none⟩) (len + n) cap', _, _, ?_, hR.2, hR.1, ?_⟩
                  · rw [hin _ len cap' a0' hroom]
                    simp only [inPlace, addr_add, Sem.run_bind]
                    rw [show l.base + o + len * k = l.base + (o + len * k) by omega, hrun]
                    simp
                  · exact VRel.open_ (o := 0) (l := ⟨l.blk, l.base + o, l.csz, false⟩) _ _ _ (Inj.add_same _ _ _) hroom (by simpa using hcz)
                · omega
              · -- a row of its own
                obtain ⟨N, d, rest, q1, q2, q3⟩ := hgrow (some p) len cap' old a0' (by omega) hro (by rw [← hs1]; exact k3)
                have hR := (h.drawnTo d).grow_new (keep := Nat.ble r.size (o + len * k)) (size := (len + n) * k) (t := T.ofL t0 (len * k) vs) (c := old ++ new ++ rest) (e := elem) (Heap.row?_eq hr) hrro (by
                  simp only [Array.size_append, k1, hnw, Nat.add_mul]; omega) (fun i hi => by
                  obtain ⟨v, v', j1, j2, j3⟩ := hcells i hi
                  refine ⟨v, v', j1, ?_, j3⟩
                  have : i < (old ++ new).size := by simp only [Array.size_append, k1, hnw, ← Nat.add_mul]; exact hi
                  rw [Array.getElem?_append_left this]; exact j2)
                exact ⟨_, _, _, q3, (Kept.drawnTo ι w d).trans hR.2, hR.1, openAt_rel (Inj.add_same _ _ _) q1 (size_rest k1 hnw q2 hzs rfl q1)⟩
end
end
end Go.Idl

/- The ideal machine, part L: operations that write. -/
namespace Go.Idl
open Go
noncomputable section

section
variable {P : Program} {ι : Inj} {σ : Heap} {w : World}
/-! ### maps -/
theorem Rel.setMap (h : Rel ι σ w) {r : Nat} {es es2 : List (Value × Value)} {es2' : Array MapEntry} {l : Loc} (clock : Nat) (hr : σ.obj r = .map es) (hl : ι r = some l)
    (he : EsRel ι es2 es2'.toList) : Rel ι (σ.put r (.map es2)) (World.setObj w l.blk (.map es2' clock)) ∧ Kept ι w ι (World.setObj w l.blk (.map es2' clock)) := by
  obtain ⟨l', hl', hob⟩ := h.at_ r (by rw [hr]; rfl)
  rw [hl] at hl'; cases hl'
  rw [hr] at hob
  obtain ⟨hro, es', clock', h1, h2⟩ := hob
  have hlt := (h.dom r l hl).2
  have hoth : ∀ c m, c ≠ r → (σ.obj c).live = true → ι c = some m → m.blk ≠ l.blk := by
    intro c m hc hcl hm hh
    rcases h.sep r c l m (Ne.symm hc) (by rw [hr]; rfl) hcl hl hm hh.symm with ⟨g, _⟩ | ⟨a, b, g, _⟩
    · rw [hro] at g; cases g
    · rw [hr] at g; cases g
  have hobj : ∀ c, (σ.put r (.map es2)).obj c = if c = r then .map es2 else σ.obj c := fun c => Heap.obj_put _ _ _ _
  refine ⟨⟨fun c m hm => by simpa using h.dom c m hm, fun c hc => ?_, fun c hc => ?_, fun x y lx ly hne hx hy hlx hly hh => ?_, by simpa using h.top⟩, ⟨.refl _, by simp, fun B hB hu => ⟨?_, hu⟩, rfl, rfl, rfl, ι.more⟩⟩
  · have hc' : σ.next ≤ c := by simpa using hc
    have : c ≠ r := fun hh => by have := (h.dom r l hl).1; omega
    rw [hobj, if_neg this]; exact h.fresh c hc'
  · rw [hobj] at hc ⊢
    by_cases hcr : c = r
    · subst hcr
      rw [if_pos rfl]
      exact ⟨l, hl, hro, es2', clock, by rw [heap_setObj _ _ _ _ hlt]; simp, he⟩
    · rw [if_neg hcr] at hc ⊢
      obtain ⟨m, hm, ho⟩ := h.at_ c hc
      exact ⟨m, hm, ho.mono (.refl _) (by rw [heap_setObj _ _ _ _ hlt, if_neg (hoth c m hcr hc hm)])⟩
  · rw [hobj] at hx hy
    by_cases hxr : x = r
    · subst hxr
      rw [if_neg (Ne.symm hne)] at hy
      rw [hl] at hlx; cases hlx
      exact (hoth y ly (Ne.symm hne) hy hly hh.symm).elim
    · by_cases hyr : y = r
      · subst hyr
        rw [if_neg hxr] at hx
        rw [hl] at hly; cases hly
        exact (hoth x lx hxr hx hlx hh).elim
      · rw [if_neg hxr] at hx; rw [if_neg hyr] at hy
        refine (h.sep x y lx ly hne hx hy hlx hly hh).imp id ?_
        rintro ⟨a, b, g1, g2, g3⟩
        exact ⟨a, b, by rw [hobj, if_neg hxr]; exact g1, by rw [hobj, if_neg hyr]; exact g2, g3⟩
  · rw [heap_setObj _ _ _ _ hlt, if_neg (fun hh => hu r l hl hro hh.symm)]
def findIx (k : IntKind) (n : Int) : List (Value × Value) → Option (Option Nat)
  | [] => some none
  | (.int k' m, _) :: es =>
    bif k == k' then (bif n == m then some (some 0) else
      match findIx k n es with
      | some (some j) => some (some (j + 1))
      | some none => some none
      | none => none) else none
  | _ => none
theorem findIx_rel {k q : IntKind} {n : Int} : ∀ (es : List (Value × Value)) (es' : List MapEntry) (i : Nat) (r : Option Nat), EsRel ι es es' → findIx k n es = some r →
    match r with
      | none => Instr.findNow (.int q) (.int k n) es' i = some none
      | some j => j < es.length ∧ ∃ e, es'[j]? = some e ∧ e.key = .int k n ∧ Instr.findNow (.int q) (.int k n) es' i = some (some (i + j, e.val))
  | [], es', i, r, h, hf => by
    have : es' = [] := by have := h.1; simp at this; exact List.eq_nil_of_length_eq_zero this.symm
    subst this
    simp only [findIx, Option.some.injEq] at hf
    subst hf
    rfl
  | (x, v) :: es, es', i, r, h, hf => by
    cases es' with
    | nil => have := h.1; simp at this
    | cons e es' =>
      obtain ⟨hk, hv⟩ := h.2 0 _ _ rfl rfl
      have htail : EsRel ι es es' := ⟨by have := h.1; simpa using this, fun i x y g1 g2 => h.2 (i + 1) x y (by simpa using g1) (by simpa using g2)⟩
      unfold findIx at hf
      split at hf
      · rename_i heq; cases heq
      · rename_i k' m v1 es1 heq
        cases heq
        simp only at hk hv
        have hek : e.key = .int k' m := by cases hh : e.key <;> rw [hh] at hk <;> cases hk; rfl
        cases hkk : k == k' with
        | false => rw [hkk] at hf; cases hf
        | true =>
          rw [hkk] at hf
          have hkk' : k = k' := by simpa using hkk
          subst hkk'
          simp only [cond_true] at hf
          cases hnm : n == m with
          | true =>
            rw [hnm] at hf
            simp only [cond_true, Option.some.injEq] at hf
            subst hf
            have hnm' : n = m := by simpa using hnm
            subst hnm'
            exact ⟨by simp, e, rfl, hek, by simp [Instr.findNow, hek, Instr.sameNow]⟩
          | false =>
            rw [hnm] at hf
            simp only [cond_false] at hf
            have step : ∀ r', Instr.findNow (.int q) (.int k n) es' (i + 1) = r' → Instr.findNow (.int q) (.int k n) (e :: es') i = r' := by
              intro r' hr'; simp [Instr.findNow, hek, Instr.sameNow, hnm, hr']
            split at hf
            · rename_i j hj
              simp only [Option.some.injEq] at hf
              subst hf
              obtain ⟨g1, e2, g2, g3, g4⟩ := findIx_rel es es' (i + 1) (some j) htail hj
              exact ⟨by simp; omega, e2, by simpa using g2, g3, by rw [step _ g4]; congr 3; omega⟩
            · rename_i hj
              simp only [Option.some.injEq] at hf
              subst hf
              exact step _ (findIx_rel es es' (i + 1) none htail hj)
            · cases hf
      · cases hf
def mapUpdA (P : Program) (σ : Heap) (t : TypeId) (m key v : Value) : Option Heap :=
  match P.underlying t with
  | some (.map kt _) =>
    match P.underlying kt, key, m with
    | some (.int _), .int k n, .map (some r) =>
      match mapOf σ r with
      | some es =>
        match findIx k n es with
        | some (some j) => some (σ.put r (.map (es.set j (.int k n, v))))
        | some none => some (σ.put r (.map (es ++ [(.int k n, v)])))
        | none => none
      | none => none
    | _, _, _ => none
  | _ => none
theorem run_setObj {B : Nat} {o o' : Obj} (h : w.heap[B]? = some o) (hc : ∀ c e f, o ≠ .cells c e f) : (Go.setObj B o').run P w = .ok () (World.setObj w B o') := by
  simp only [Go.setObj, Sem.run, h]
  cases o <;> first | rfl | exact absurd rfl (hc _ _ _)
theorem run_getObj {B : Nat} {o : Obj} (h : w.heap[B]? = some o) (hc : ∀ c e f, o ≠ .cells c e f) : (Go.getObj B).run P w = .ok o w := by
  simp only [Go.getObj, Sem.run, h]
theorem EsRel.set {es : List (Value × Value)} {es' : Array MapEntry} (h : EsRel ι es es'.toList) {k : IntKind} {n : Int} {v v' : Value} {j : Nat} (hv : VRel ι v v') :
    EsRel ι (es.set j (.int k n, v)) (es'.modify j fun e => { e with key := .int k n, val := v' }).toList := by
  refine ⟨by have := h.1; simpa using this, fun i x y h1 h2 => ?_⟩
  rw [List.getElem?_set] at h1
  rw [Array.getElem?_toList, Array.getElem?_modify] at h2
  by_cases hij : j = i
  · subst hij
    rw [if_pos rfl] at h1 h2
    split at h1
    · cases h1
      cases he : es'[j]? with
      | none => simp [he] at h2
      | some e => simp only [he, Option.map_some, Option.some.injEq] at h2; subst h2; exact ⟨.int _ _, hv⟩
    · cases h1
  · rw [if_neg hij] at h1 h2
    exact h.2 i x y h1 (by simpa using h2)
theorem EsRel.push {es : List (Value × Value)} {es' : Array MapEntry} (h : EsRel ι es es'.toList) {k : IntKind} {n : Int} {v v' : Value} (hv : VRel ι v v') (c : Nat) :
    EsRel ι (es ++ [(.int k n, v)]) (es'.push { key := .int k n, val := v', born := c }).toList := by
  have hl : es.length = es'.toList.length := h.1
  refine ⟨by simp [hl], fun i x y h1 h2 => ?_⟩
  simp only [Array.toList_push] at h2
  rw [List.getElem?_append] at h1 h2
  rw [hl] at h1
  split at h1
  · rename_i hlt
    rw [if_pos hlt] at h2
    exact h.2 i x y h1 h2
  · rename_i hlt
    rw [if_neg hlt] at h2
    generalize i - es'.toList.length = j at h1 h2
    cases j with
    | zero => simp at h1 h2; subst h1; subst h2; exact ⟨.int _ _, hv⟩
    | succ j => simp at h1
theorem mapUpdA_sound (h : Rel ι σ w) {t : TypeId} {m m' key key' v v' : Value} {σ' : Heap} (hm : VRel ι m m') (hk : VRel ι key key') (hv : VRel ι v v') (hu : mapUpdA P σ t m key v = some σ') :
    ∃ w', (Instr.mapUpdate t m' key' v').run P w = .ok () w' ∧ Rel ι σ' w' ∧ Kept ι w ι w' := by
  unfold mapUpdA at hu
  split at hu <;> try (cases hu; done)
  rename_i kt et hut
  split at hu <;> try (cases hu; done)
  rename_i q k n r hq
  cases hk
  cases hm with
  | map hr =>
    rename_i l
    split at hu <;> try (cases hu; done)
    rename_i es hes
    have hob := mapOf_eq hes
    obtain ⟨l', hl', ho⟩ := h.at_ r (by rw [hob]; rfl)
    rw [hr] at hl'; cases hl'
    rw [hob] at ho
    obtain ⟨_, es', clock, h1, h2⟩ := ho
    have hg := run_getObj (P := P) h1 (fun _ _ _ hh => by cases hh)
    have hset : ∀ o', (Go.setObj l.blk o').run P w = .ok () (World.setObj w l.blk o') := fun o' => run_setObj h1 (fun _ _ _ hh => by cases hh)
    split at hu <;> try (cases hu; done)
    · rename_i j hj
      cases hu
      obtain ⟨g1, e, g2, g3, g4⟩ := findIx_rel (q := q) es es'.toList 0 _ h2 hj
      obtain ⟨a, b⟩ := h.setMap (es2 := es.set j (.int k n, v)) (es2' := es'.modify j fun e => { e with key := .int k n, val := v' }) clock hob hr (h2.set hv)
      refine ⟨_, ?_, a, b⟩
      have g2' : es'[j]? = some e := by simpa using g2
      have hkeep : (Instr.keyThatStays (.int k n) (.int k n)).run P w = .ok (.int k n) w := by simp [Instr.keyThatStays, Instr.sameBits]
      simp only [Instr.mapUpdate, Sem.run_bind, run_underlying hut, Result.andThen_ok, hg, run_checkKey hq, Instr.findKey, run_underlying hq, g4, Sem.run_pure, Nat.zero_add, g2', Option.map_some, Option.getD_some, g3, hkeep, hset]
    · rename_i hj
      cases hu
      have g4 := findIx_rel (q := q) es es'.toList 0 _ h2 hj
      obtain ⟨a, b⟩ := h.setMap (es2 := es ++ [(.int k n, v)]) (es2' := es'.push { key := .int k n, val := v', born := clock }) (clock + 1) hob hr (h2.push hv clock)
      refine ⟨_, ?_, a, b⟩
      simp only at g4
      simp only [Instr.mapUpdate, Sem.run_bind, run_underlying hut, Result.andThen_ok, hg, run_checkKey hq, Instr.findKey, run_underlying hq, g4, Sem.run_pure, hset]
def delA (P : Program) (σ : Heap) (ts : Array TypeId) (args : Array Value) : Option Heap :=
  match ts[0]?, args[0]?, args[1]? with
  | some t, some (Value.map (some r)), some (Value.int k n) =>
    match P.underlying t with
    | some (.map kt _) =>
      match P.underlying kt, mapOf σ r with
      | some (.int _), some es =>
        match findIx k n es with
        | some (some j) => some (σ.put r (.map (es.eraseIdx j)))
        | some none => some (σ.put r (.map es))
        | none => none
      | _, _ => none
    | _ => none
  | _, _, _ => none
theorem delA_sound (h : Rel ι σ w) {ts : Array TypeId} {ty : TypeId} {args args' : Array Value} {σ' : Heap} (ha : ARel ι args args') (hu : delA P σ ts args = some σ') :
    ∃ w', (Builtin.delete_ ts ty args').run P w = .ok (.tuple #[]) w' ∧ Rel ι σ' w' ∧ Kept ι w ι w' := by
  unfold delA at hu
  split at hu <;> try (cases hu; done)
  rename_i t r k n ht h0 h1
  obtain ⟨m', hm', hm⟩ := ha.get h0
  obtain ⟨key', hk', hk⟩ := ha.get h1
  split at hu <;> try (cases hu; done)
  rename_i kt et hut
  split at hu <;> try (cases hu; done)
  rename_i q es hq hes
  cases hk
  cases hm with
  | map hr =>
    rename_i l
    have hob := mapOf_eq hes
    obtain ⟨l', hl', ho⟩ := h.at_ r (by rw [hob]; rfl)
    rw [hr] at hl'; cases hl'
    rw [hob] at ho
    obtain ⟨_, es', clock, g1, g2⟩ := ho
    have hg := run_getObj (P := P) g1 (fun _ _ _ hh => by cases hh)
    have hset : ∀ o', (Go.setObj l.blk o').run P w = .ok () (World.setObj w l.blk o') := fun o' => run_setObj g1 (fun _ _ _ hh => by cases hh)
    split at hu <;> try (cases hu; done)
    · rename_i j hj
      cases hu
      obtain ⟨q1, e, q2, q3, q4⟩ := findIx_rel (q := q) es es'.toList 0 _ g2 hj
      have her : EsRel ι (es.eraseIdx j) (es'.eraseIdxIfInBounds j).toList := by
        have hlen : es.length = es'.size := by simpa using g2.1
        have hjs : j < es'.size := by omega
        have he : (es'.eraseIdxIfInBounds j).toList = es'.toList.eraseIdx j := by
          simp [Array.eraseIdxIfInBounds, hjs]
        rw [he]
        refine ⟨by simp only [List.length_eraseIdx, hlen, Array.length_toList], fun i x y k1 k2 => ?_⟩
        rw [List.getElem?_eraseIdx] at k1 k2
        split at k1
        · rename_i hlt; rw [if_pos hlt] at k2; exact g2.2 i x y k1 k2
        · rename_i hlt; rw [if_neg hlt] at k2; exact g2.2 (i + 1) x y k1 k2
      obtain ⟨a, b⟩ := h.setMap clock hob hr her
      refine ⟨_, ?_, a, b⟩
      simp only [Builtin.delete_, ht, hm', hk', Sem.run_bind, run_underlying hut, Result.andThen_ok, hg, run_checkKey hq, Instr.findKey, run_underlying hq, q4, Sem.run_pure, Nat.zero_add, hset]
    · rename_i hj
      cases hu
      have q4 := findIx_rel (q := q) es es'.toList 0 _ g2 hj
      obtain ⟨a, b⟩ := h.setMap clock hob hr g2
      refine ⟨_, ?_, a, b⟩
      simp only at q4
      simp only [Builtin.delete_, ht, hm', hk', Sem.run_bind, run_underlying hut, Result.andThen_ok, hg, run_checkKey hq, Instr.findKey, run_underlying hq, q4, Sem.run_pure, hset]

/-! ### stores, copies, clearing -/
/-- cells that are written over; none: nothing is written -/
def putL (σ : Heap) (b o : Nat) (vs : List Value) : Option Heap := bif vs.isEmpty then some σ else σ.storeL b o vs
theorem putL_sound (h : Rel ι σ w) {b o : Nat} {vs vs' : List Value} {σ' : Heap} (hs : putL σ b o vs = some σ') (hv : LRel ι vs vs') {l : Loc} (hb : ι b = some l) :
    ∃ w', (storeCells ⟨l.blk, l.base + o, none⟩ vs').run P w = .ok () w' ∧ Rel ι σ' w' ∧ Kept ι w ι w' := by
  unfold putL at hs
  cases he : vs.isEmpty with
  | true =>
    rw [he] at hs
    simp only [cond_true, Option.some.injEq] at hs
    subst hs
    have h0 : vs = [] := by simpa using he
    subst h0
    have : vs' = [] := by have := hv.1; simp at this; exact List.eq_nil_of_length_eq_zero this.symm
    subst this
    exact ⟨w, rfl, h, Kept.refl _ _⟩
  | false =>
    rw [he] at hs
    simp only [cond_false] at hs
    obtain ⟨c, e, fr, g1, g2, g3, g4, g5, g6⟩ := storeL_rel h hs hv hb
    exact ⟨_, run_storeCells (P := P) vs' l.blk (l.base + o) 0 c e fr w g1 g2 (by simpa using g3) g4, g5, g6⟩
def storeA (P : Program) (σ : Heap) (t : TypeId) (a v : Value) : Option Heap :=
  match a with
  | .pointer (some ⟨b, o, none⟩) =>
    match tsz P t with
    | some n => bif Nat.beq v.cells.size n then putL σ b o v.cells.toList else none
    | none => none
  | _ => none
theorem ARel.toL {a a' : Array Value} (h : ARel ι a a') : LRel ι a.toList a'.toList :=
  ⟨by simpa using h.1, fun i v v' h1 h2 => h.2 i v v' (by simpa using h1) (by simpa using h2)⟩
theorem storeA_sound (h : Rel ι σ w) {t : TypeId} {a a' v v' : Value} {σ' : Heap} (ha : VRel ι a a') (hv : VRel ι v v') (hs : storeA P σ t a v = some σ') :
    ∃ w', (Instr.storeAt t a' v').run P w = .ok () w' ∧ Rel ι σ' w' ∧ Kept ι w ι w' := by
  unfold storeA at hs
  split at hs <;> try (cases hs; done)
  rename_i b o
  split at hs <;> try (cases hs; done)
  rename_i n hn
  cases hg : Nat.beq v.cells.size n with
  | false => rw [hg] at hs; cases hs
  | true =>
    rw [hg] at hs
    simp only [cond_true] at hs
    have hg : v.cells.size = n := by simpa using hg
    cases ha with
    | ptr hb =>
      obtain ⟨w', r1, r2, r3⟩ := putL_sound (P := P) h hs hv.cells.toL hb
      refine ⟨w', ?_, r2, r3⟩
      have hsz : v'.cells.size = n := by rw [hv.cells_size]; exact hg
      simp only [Instr.storeAt, Instr.sureAddr, storeVar, Sem.run_bind, Sem.run_pure, Result.andThen_ok, tsz_run hn]
      rw [if_neg (by simp [hsz])]
      exact r1
def copyA (P : Program) (σ : Heap) (ts : Array TypeId) (args : Array Value) : Option (Value × Heap) :=
  match ts[0]?, args[0]?, args[1]? with
  | some dt, some (Value.slice base dl _), some x =>
    match P.underlying dt with
    | some (.slice elem) =>
      match tsz P elem, srcLen x with
      | some es, some sl =>
        match srcCells σ es (Nat.min sl dl) x with
        | some vs =>
          match base with
          | none => some (goInt (Nat.min sl dl), σ)
          | some ⟨b, o, _⟩ =>
            match putL σ b o vs with
            | some σ' => some (goInt (Nat.min sl dl), σ')
            | none => none
        | none => none
      | _, _ => none
    | _ => none
  | _, _, _ => none
theorem srcCells_len0 {es : Nat} {x : Value} {vs : List Value} (h : srcCells σ es 0 x = some vs) : vs = [] := by
  unfold srcCells at h
  split at h
  · cases h; rfl
  · simp only [Nat.zero_mul] at h; cases h; rfl
  · cases h; simp
  · cases h
theorem copyA_sound (h : Rel ι σ w) {ts : Array TypeId} {ty : TypeId} {args args' : Array Value} {u : Value} {σ' : Heap} (ha : ARel ι args args') (hu : copyA P σ ts args = some (u, σ')) :
    VRel ι u u ∧ ∃ w', (Builtin.copy_ ts ty args').run P w = .ok u w' ∧ Rel ι σ' w' ∧ Kept ι w ι w' := by
  unfold copyA at hu
  split at hu <;> try (cases hu; done)
  rename_i dt base dl dc x ht h0 h1
  obtain ⟨d', hd', hd⟩ := ha.get h0
  obtain ⟨x', hx', hx⟩ := ha.get h1
  split at hu <;> try (cases hu; done)
  rename_i elem hut
  split at hu <;> try (cases hu; done)
  rename_i es sl hs hsl
  split at hu <;> try (cases hu; done)
  rename_i vs hvs
  obtain ⟨cs, k1, k2⟩ := srcCells_rel (P := P) h hx hvs
  have hlen := srcLen_rel (P := P) hx hsl w
  obtain ⟨base', cap', rfl, _, hbn, hbe⟩ := slice_inv hd
  have hrun0 : (Builtin.copy_ ts ty args').run P w = (do
      if let some a := base' then storeCells a cs.toList
      pure (goInt (Nat.min sl dl)) : Sem Value).run P w := by
    simp only [Builtin.copy_, ht, hd', hx', Sem.run_bind, run_underlying hut, Result.andThen_ok, hlen, tsz_run hs, k2 w rfl]
    cases base' <;> simp
  split at hu
  · cases hu
    obtain ⟨rfl, _⟩ := hbn rfl
    exact ⟨.int _ _, w, by rw [hrun0]; rfl, h, Kept.refl _ _⟩
  · rename_i b o sp
    split at hu <;> try (cases hu; done)
    rename_i σ1 hp
    cases hu
    refine ⟨.int _ _, ?_⟩
    have go : ∀ {l : Loc}, ι b = some l → base' = some ⟨l.blk, l.base + o, none⟩ → ∃ w', (Builtin.copy_ ts ty args').run P w = .ok (goInt (Nat.min sl dl)) w' ∧ Rel ι σ' w' ∧ Kept ι w ι w' := by
      intro l hb hbase
      obtain ⟨w', r1, r2, r3⟩ := putL_sound (P := P) h hp k1 hb
      refine ⟨w', ?_, r2, r3⟩
      rw [hrun0, hbase]
      simp [r1]
    cases hd with
    | slice len cap hb => exact go hb rfl
    | open_ len cap cap' hb _ _ => exact go hb rfl
    | zero p hb =>
      have hz : Nat.min sl 0 = 0 := Nat.min_zero sl
      rw [hz] at hvs
      have hv0 := srcCells_len0 hvs
      subst hv0
      have hc0 : cs = #[] := by
        have := k1.1; simp at this; exact Array.eq_empty_of_size_eq_zero this.symm
      subst hc0
      simp only [putL, List.isEmpty_nil, cond_true, Option.some.injEq] at hp
      subst hp
      exact ⟨w, by rw [hrun0]; simp [storeCells], h, Kept.refl _ _⟩
def clearA (P : Program) (σ : Heap) (ts : Array TypeId) (args : Array Value) : Option Heap :=
  match ts[0]?, args[0]? with
  | some t, some (Value.map (some r)) =>
    match P.underlying t, mapOf σ r with
    | some _, some _ => some (σ.put r (.map []))
    | _, _ => none
  | some t, some (Value.slice none _ _) => match P.underlying t with | some _ => some σ | none => none
  | some t, some (Value.slice (some ⟨b, o, _⟩) n _) =>
    match P.underlying t with
    | some (.slice elem) =>
      bif Nat.beq n 0 then some σ else
      match zeroA P elem with
      | some z => bif Nat.blt 0 z.size then putL σ b o (zerosOf z (n * z.size)) else none
      | none => none
    | _ => none
  | _, _ => none
theorem clearA_sound (h : Rel ι σ w) {ts : Array TypeId} {ty : TypeId} {args args' : Array Value} {σ' : Heap} (ha : ARel ι args args') (hu : clearA P σ ts args = some σ') :
    ∃ w', (Builtin.clear_ ts ty args').run P w = .ok (.tuple #[]) w' ∧ Rel ι σ' w' ∧ Kept ι w ι w' := by
  unfold clearA at hu
  split at hu <;> try (cases hu; done)
  · rename_i t r ht h0
    obtain ⟨m', hm', hm⟩ := ha.get h0
    split at hu <;> try (cases hu; done)
    rename_i d es hut hes
    cases hu
    cases hm with
    | map hr =>
      rename_i l
      have hob := mapOf_eq hes
      obtain ⟨l', hl', ho⟩ := h.at_ r (by rw [hob]; rfl)
      rw [hr] at hl'; cases hl'
      rw [hob] at ho
      obtain ⟨_, es', clock, g1, g2⟩ := ho
      have hg := run_getObj (P := P) g1 (fun _ _ _ hh => by cases hh)
      have hset : ∀ o', (Go.setObj l.blk o').run P w = .ok () (World.setObj w l.blk o') := fun o' => run_setObj g1 (fun _ _ _ hh => by cases hh)
      obtain ⟨a, b⟩ := h.setMap (es2 := []) (es2' := #[]) clock hob hr ⟨rfl, fun i x y k => by simp at k⟩
      refine ⟨_, ?_, a, b⟩
      simp only [Builtin.clear_, ht, hm', Sem.run_bind, run_underlying hut, Result.andThen_ok]
      cases d <;> simp only [Sem.run_bind, hg, Result.andThen_ok, hset, Sem.run_pure]
  · rename_i t ln cp ht h0
    obtain ⟨m', hm', hm⟩ := ha.get h0
    split at hu <;> try (cases hu; done)
    rename_i d hut
    cases hu
    cases hm
    refine ⟨w, ?_, h, Kept.refl _ _⟩
    simp only [Builtin.clear_, ht, hm', Sem.run_bind, run_underlying hut, Result.andThen_ok]
    cases d <;> simp
  · rename_i t b o sp n cp ht h0
    obtain ⟨m', hm', hm⟩ := ha.get h0
    split at hu <;> try (cases hu; done)
    rename_i elem hut
    cases hn : Nat.beq n 0 with
    | true =>
      rw [hn] at hu
      simp only [cond_true, Option.some.injEq] at hu
      subst hu
      have hn : n = 0 := by simpa using hn
      subst hn
      refine ⟨w, ?_, h, Kept.refl _ _⟩
      simp only [Builtin.clear_, ht]
      cases hm <;> simp [hm', run_underlying hut]
    | false =>
      rw [hn] at hu
      simp only [cond_false] at hu
      have hn : n ≠ 0 := by rw [T.nbeq] at hn; simpa using hn
      split at hu <;> try (cases hu; done)
      rename_i z hz
      cases hzs : Nat.blt 0 z.size with
      | false => rw [hzs] at hu; cases hu
      | true =>
        rw [hzs] at hu
        simp only [cond_true] at hu
        have hzs : 0 < z.size := by rw [nblt] at hzs; simpa using hzs
        obtain ⟨hzr, v, hv, hzrun⟩ := zeroA_run hz ι
        have hcells : (Builtin.zeroCells z n).toList = zerosOf z (n * z.size) := zerosOf_arr z (n * z.size) hzs
        have go : ∀ {l : Loc} (cap' : Nat), ι b = some l → args'[0]? = some (.slice (some ⟨l.blk, l.base + o, none⟩) n cap') → ∃ w', (Builtin.clear_ ts ty args').run P w = .ok (.tuple #[]) w' ∧ Rel ι σ' w' ∧ Kept ι w ι w' := by
          intro l cap' hb hm2
          obtain ⟨w', r1, r2, r3⟩ := putL_sound (P := P) h hu (zerosOf_rel hzr _) hb
          refine ⟨w', ?_, r2, r3⟩
          obtain ⟨n', rfl⟩ : ∃ n', n = n' + 1 := ⟨n - 1, by omega⟩
          simp only [Builtin.clear_, ht, hm2, Sem.run_bind, run_underlying hut, Result.andThen_ok, hzrun, hv, hcells, r1, Sem.run_pure]
        cases hm with
        | slice len cap hb => exact go _ hb hm'
        | open_ len cap cap' hb _ _ => exact go _ hb hm'
        | zero p hb => exact absurd rfl hn
/-- the frozen range behind a mark at a row's end -/
def markedFr (n : Nat) (fr : Nat × Nat) : Nat × Nat := if fr.1 == fr.2 then (n, n + 1) else (min fr.1 n, max fr.2 (n + 1))
theorem unfrozen_marked {n : Nat} {fr : Nat × Nat} (h : unfrozen n fr) : unfrozen n (markedFr n fr) := by
  unfold markedFr
  split
  · exact .inr (Nat.le_refl _)
  · rename_i hne
    have hne : fr.1 ≠ fr.2 := by simpa using hne
    rcases h with h | h
    · exact absurd h hne
    · exact .inr (by simp only; omega)
theorem run_mark {B o : Nat} {c : Array Value} {e : TypeId} {fr : Nat × Nat} (h : w.heap[B]? = some (.cells c e fr)) :
    (markStringish ⟨B, o, none⟩).run P w = .ok () (World.setObj w B (.cells c e (markedFr c.size fr))) := by
  have hs : w.shape? B = some (e, c.size) := by simp [World.shape?, h]
  have hB : B < w.heap.size := (Array.getElem?_eq_some_iff.1 h).1
  have hv : w.heap[B] = .cells c e fr := (Array.getElem?_eq_some_iff.1 h).2
  have hf : w.freeze ⟨B, c.size, none⟩ 1 = World.setObj w B (.cells c e (markedFr c.size fr)) := by
    simp only [World.freeze, World.setObj, Nat.one_ne_zero, if_false]
    congr 1
    apply Array.ext
    · simp
    · intro i h1 h2
      rw [Array.getElem_modify, Array.getElem_setIfInBounds]
      by_cases hi : B = i
      · subst hi; simp [hv, markedFr]
      · simp [hi]
      · simpa using h1
  simp only [markStringish, Sem.run_bind, run_shape, hs, Result.andThen_ok, run_freeze, hf]
/-- a row's frozen range is turned, behind its cells -/
theorem Rel.marked (h : Rel ι σ w) {b : Nat} {r : Row} {l : Loc} (hr : σ.obj b = .row r) (hro : r.ro = false) (hl : ι b = some l) :
    ∃ c e fr, w.heap[l.blk]? = some (.cells c e fr) ∧ Rel ι σ (World.setObj w l.blk (.cells c e (markedFr c.size fr))) ∧ Kept ι w ι (World.setObj w l.blk (.cells c e (markedFr c.size fr))) := by
  obtain ⟨l', hl', hlr, ⟨c, e, fr, g1, g2, gz, g3, g4⟩⟩ := h.row hr
  rw [hl] at hl'; cases hl'
  have hlro : l.ro = false := hlr.trans hro
  have hlt := (h.dom b l hl).2
  refine ⟨c, e, fr, g1, ⟨fun x m hm => by simpa using h.dom x m hm, h.fresh, fun x hx => ?_, h.sep, h.top⟩, ⟨.refl _, by simp, fun B hB hu => ⟨?_, hu⟩, rfl, rfl, rfl, ι.more⟩⟩
  · obtain ⟨m, hm, ho⟩ := h.at_ x hx
    by_cases hb : m.blk = l.blk
    · refine ⟨m, hm, ?_⟩
      cases hob : σ.obj x with
      | row s =>
        rw [hob] at ho
        obtain ⟨k0, c2, e2, fr2, k1, k2, k3, k4, k5⟩ := ho.1, ho.2.out
        rw [hb, g1] at k1; cases k1
        exact ⟨k0, c, e, markedFr c.size fr, by rw [hb, heap_setObj _ _ _ _ hlt]; simp, fun hh => unfrozen_marked (k2 hh), k3, k4, k5⟩
      | map es =>
        rw [hob] at ho
        obtain ⟨_, es', cl, k1, _⟩ := ho
        rw [hb, g1] at k1; cases k1
      | loop a =>
        rw [hob] at ho
        obtain ⟨_, a', k1, _⟩ := ho
        rw [hb, g1] at k1; cases k1
      | dead => trivial
    · exact ⟨m, hm, ho.mono (.refl _) (by rw [heap_setObj _ _ _ _ hlt, if_neg hb])⟩
  · rw [heap_setObj _ _ _ _ hlt, if_neg (fun hh => hu b l hl hlro hh.symm)]
/-- a text's bytes, in memory of their own -/
def strA (P : Program) (σ : Heap) (src dst : TypeId) (v : Value) : Option (Value × Heap) :=
  match P.underlying src, P.underlying dst, v with
  | some .string, some (.slice e), .string s =>
    match P.underlying e with
    | some (.int .u8) => some (openAt σ.next 1 s.size, σ.new (mkRow (s.data.toList.map fun b => .int .u8 b.toNat)))
    | _ => none
  | _, _, _ => none
theorem strA_sound (h : Rel ι σ w) {src dst : TypeId} {v v' u : Value} {σ' : Heap} (hv : VRel ι v v') (hu : strA P σ src dst v = some (u, σ')) :
    ∃ u' w' ι', (convert src dst v').run P w = .ok u' w' ∧ Kept ι w ι' w' ∧ Rel ι' σ' w' ∧ VRel ι' u u' := by
  unfold strA at hu
  split at hu <;> try (cases hu; done)
  rename_i e s hs hd
  split at hu <;> try (cases hu; done)
  rename_i he
  cases hu
  cases hv
  obtain ⟨N, hN, hch⟩ : ∃ N, s.size ≤ N ∧ (choose (Question.appendCap s.size 0 e)).run P w = .ok N (World.drawnTo w (w.drawn + 1)) :=
    ⟨_, Nat.le_add_right _ _, by simp only [run_choose]; rfl⟩
  generalize hcsd : s.data.map (fun b => Value.int .u8 b.toNat) ++ Array.replicate (N - s.size) (.int .u8 0) = cs
  have hds : s.data.size = s.size := rfl
  have hcs : cs.size = N := by
    rw [← hcsd]
    simp only [Array.size_append, Array.size_map, Array.size_replicate, hds]; omega
  have hle := Inj.le_add (ι := ι) (b := σ.next) ⟨w.heap.size, 0, cs.size, false⟩ h.next_none
  have hR := (h.drawnTo (w.drawn + 1)).new (z := cs.size) (o := mkRow (s.data.toList.map fun b => .int .u8 b.toNat)) (o' := .cells cs e) (by
    refine ⟨rfl, cs, e, (0, 0), by simp only [World.alloc]; simp, fun _ => .inl rfl, rfl, by simp [hds, hcs]; exact hN, fun i hi => ?_⟩
    have hi : i < (s.data.toList.map fun b => Value.int .u8 b.toNat).length := hi
    have hi' : i < s.data.size := by simpa using hi
    refine ⟨.int .u8 (s.data[i]).toNat, .int .u8 (s.data[i]).toNat, ?_, ?_, .int _ _⟩
    · rw [T.get_ofL, if_pos (by omega), List.getElem?_map]; simp only [Nat.sub_zero, Array.getElem?_toList, Array.getElem?_eq_getElem hi']; rfl
    · rw [← hcsd]
      simp only [Nat.zero_add]
      rw [Array.getElem?_append_left (by simpa using hi'), Array.getElem?_map, Array.getElem?_eq_getElem hi']; rfl)
  have hnew : ((World.drawnTo w (w.drawn + 1)).alloc (.cells cs e)).heap[w.heap.size]? = some (.cells cs e) := by simp only [World.alloc]; simp
  obtain ⟨c, e2, fr, k1, k2, k3⟩ := hR.1.marked (b := σ.next) (r := { size := _, cells := _, ro := false, par := none, kid := none }) (by rw [Heap.obj_new, if_pos rfl]; rfl) rfl (Inj.add_same _ _ _)
  have k1' : ((World.drawnTo w (w.drawn + 1)).alloc (.cells cs e)).heap[w.heap.size]? = some (.cells c e2 fr) := k1
  rw [hnew] at k1'; cases k1'
  refine ⟨.slice (some ⟨w.heap.size, 0, none⟩) s.size N, _, _, ?_, ((Kept.drawnTo ι w (w.drawn + 1)).trans hR.2).trans k3, k2, openAt_rel (Inj.add_same _ _ _) hN (by rw [hcs]; omega)⟩
  have hm := run_mark (P := P) (o := 0) hnew
  simp only [convert, Sem.run_bind, run_underlying hs, run_underlying hd, Result.andThen_ok, run_underlying he, Conv.stringToBytes, hch, newRow, run_newObj, Sem.run_pure]
  rw [hcsd]
  have e1 : ({ World.drawnTo w (w.drawn + 1) with heap := (World.drawnTo w (w.drawn + 1)).heap.push (.cells cs e) } : World) = (World.drawnTo w (w.drawn + 1)).alloc (.cells cs e) := rfl
  simp only [heap_drawnTo] at e1 ⊢
  rw [e1, hm]
  rfl
/-- bytes that were made of a text in the program's own words: what may not be written lies behind the row's end -/
def markA (P : Program) (σ : Heap) (src dst : TypeId) (v : Value) : Option (Value × Heap) :=
  match P.underlying src, P.underlying dst, v with
  | some (.slice _), some (.slice e), .slice (some ⟨b, o, none⟩) len cap =>
    bif src == dst then
      match P.underlying e, σ.row? b with
      | some (.int .u8), some r => bif r.ro then none else some (.slice (some ⟨b, o, none⟩) len cap, σ)
      | _, _ => none
    else none
  | _, _, _ => none
theorem markA_sound (h : Rel ι σ w) {src dst : TypeId} {v v' u : Value} {σ' : Heap} (hv : VRel ι v v') (hu : markA P σ src dst v = some (u, σ')) :
    ∃ u' w' ι', (convert src dst v').run P w = .ok u' w' ∧ Kept ι w ι' w' ∧ Rel ι' σ' w' ∧ VRel ι' u u' := by
  unfold markA at hu
  split at hu <;> try (cases hu; done)
  rename_i e0 e b o len cap hs hd
  cases hsd : src == dst with
  | false => rw [hsd] at hu; cases hu
  | true =>
    rw [hsd] at hu
    simp only [cond_true] at hu
    split at hu <;> try (cases hu; done)
    rename_i r he hr
    cases hro : r.ro with
    | true => rw [hro] at hu; cases hu
    | false =>
      rw [hro] at hu
      simp only [cond_false, Option.some.injEq, Prod.mk.injEq] at hu
      obtain ⟨rfl, rfl⟩ := hu
      cases hv with
      | slice len cap hb =>
        rename_i l
        obtain ⟨c, e2, fr, k1, k2, k3⟩ := h.marked (Heap.row?_eq hr) hro hb
        refine ⟨_, _, ι, ?_, k3, k2, .slice len cap hb⟩
        simp only [convert, Sem.run_bind, run_underlying hs, run_underlying hd, Result.andThen_ok, hsd, run_underlying he, run_mark k1, Sem.run_pure]
/-- an operation that writes, but for calls -/
def wA (P : Program) (ρ : Env) (σ : Heap) (o : Oper) : Option (Value × Heap) :=
  match o.op with
  | .store t a v => (storeA P σ t (ρ a) (ρ v)).map fun σ' => (undef, σ')
  | .mapUpdate t m k v => (mapUpdA P σ t (ρ m) (ρ k) (ρ v)).map fun σ' => (undef, σ')
  | .insert t m k v => (mapUpdA P σ t (ρ m) (ρ k) (ρ v)).map fun σ' => (undef, σ')
  | .convert src dst x =>
    match markA P σ src dst (ρ x) with
    | some r => some r
    | none => strA P σ src dst (ρ x)
  | .call c =>
    match c.callee with
    | .builtin .append => appendA P σ c.argTypes (c.args.map ρ)
    | .builtin .copy => copyA P σ c.argTypes (c.args.map ρ)
    | .builtin .clear => (clearA P σ c.argTypes (c.args.map ρ)).map fun σ' => (undef, σ')
    | .builtin .delete => (delA P σ c.argTypes (c.args.map ρ)).map fun σ' => (undef, σ')
    | _ => none
  | _ => none
theorem wA_sound (h : Rel ι σ w) {ρ ρ' : Env} {o : Oper} {u : Value} {σ' : Heap} (hρ : ERel ι ρ ρ' o.op) (hw : wA P ρ σ o = some (u, σ')) :
    ∃ u' w' ι', ((execOp ρ' o).run P w = .ok (.value u') w' ∨ ((execOp ρ' o).run P w = .ok .skip w' ∧ u' = undef)) ∧ Kept ι w ι' w' ∧ Rel ι' σ' w' ∧ VRel ι' u u' := by
  unfold wA at hw
  split at hw
  · rename_i t a v ho
    cases hs : storeA P σ t (ρ a) (ρ v) with
    | none => simp [hs] at hw
    | some σ1 =>
      simp only [hs, Option.map_some, Option.some.injEq, Prod.mk.injEq] at hw
      obtain ⟨rfl, rfl⟩ := hw
      obtain ⟨w', r1, r2, r3⟩ := storeA_sound h (hρ a (by simp [ho, Op.operands])) (hρ v (by simp [ho, Op.operands])) hs
      exact ⟨undef, w', ι, .inr ⟨by simp [execOp, ho, r1], rfl⟩, r3, r2, VRel.undef _⟩
  · rename_i t m k v ho
    cases hs : mapUpdA P σ t (ρ m) (ρ k) (ρ v) with
    | none => simp [hs] at hw
    | some σ1 =>
      simp only [hs, Option.map_some, Option.some.injEq, Prod.mk.injEq] at hw
      obtain ⟨rfl, rfl⟩ := hw
      obtain ⟨w', r1, r2, r3⟩ := mapUpdA_sound h (hρ m (by simp [ho, Op.operands])) (hρ k (by simp [ho, Op.operands])) (hρ v (by simp [ho, Op.operands])) hs
      exact ⟨undef, w', ι, .inr ⟨by simp [execOp, ho, r1], rfl⟩, r3, r2, VRel.undef _⟩
  · rename_i t m k v ho
    cases hs : mapUpdA P σ t (ρ m) (ρ k) (ρ v) with
    | none => simp [hs] at hw
    | some σ1 =>
      simp only [hs, Option.map_some, Option.some.injEq, Prod.mk.injEq] at hw
      obtain ⟨rfl, rfl⟩ := hw
      obtain ⟨w', r1, r2, r3⟩ := mapUpdA_sound h (hρ m (by simp [ho, Op.operands])) (hρ k (by simp [ho, Op.operands])) (hρ v (by simp [ho, Op.operands])) hs
      exact ⟨undef, w', ι, .inr ⟨by simp [execOp, ho, r1], rfl⟩, r3, r2, VRel.undef _⟩
  · rename_i src dst x ho
    have hx := hρ x (by simp [ho, Op.operands])
    cases hm : markA P σ src dst (ρ x) with
    | some r =>
      rw [hm] at hw
      simp only [Option.some.injEq] at hw
      subst hw
      obtain ⟨u', w', ι', r1, r2, r3, r4⟩ := markA_sound h hx hm
      exact ⟨u', w', ι', .inl (by simp [execOp, ho, r1]), r2, r3, r4⟩
    | none =>
      rw [hm] at hw
      obtain ⟨u', w', ι', r1, r2, r3, r4⟩ := strA_sound h hx hw
      exact ⟨u', w', ι', .inl (by simp [execOp, ho, r1]), r2, r3, r4⟩
  · rename_i c ho
    have a1 := arr_map_rel (ι := ι) (xs := c.args) (ρ := ρ) (ρ' := ρ') fun x hx => hρ x (by simp [ho, Op.operands, Call.operands, hx])
    split at hw <;> try (cases hw; done)
    · rename_i hc
      unfold appendA at hw
      split at hw <;> try (cases hw; done)
      rename_i st base len cap x ht h0 h1
      obtain ⟨s', hs', hsr⟩ := a1.get h0
      obtain ⟨x', hx', hxr⟩ := a1.get h1
      split at hw <;> try (cases hw; done)
      rename_i elem hut
      split at hw <;> try (cases hw; done)
      rename_i es by_ z hes hby hz
      cases hg : (Nat.beq z.size es && Nat.blt 0 es) with
      | false => rw [hg] at hw; cases hw
      | true =>
        rw [hg] at hw
        simp only [cond_true] at hw
        simp only [Bool.and_eq_true] at hg
        have g1 : z.size = es := by simpa using hg.1
        have g2 : 0 < es := by have := hg.2; rw [nblt] at this; simpa using this
        have fin : WDone P ι w (Builtin.append_ c.argTypes o.type (c.args.map ρ')) u σ' := by
          cases hf : fastA P σ es by_ c.argTypes[1]? base len cap x with
          | some r =>
            rw [hf] at hw
            simp only [Option.some.injEq] at hw
            subst hw
            exact fastA_sound h ht hut hes hby hz g1 g2 hf hsr hxr hs' hx'
          | none =>
            rw [hf] at hw
            exact slowA_sound h ht hut hes hby hz g1 g2 hw hsr hxr hs' hx'
        obtain ⟨u', w', ι', r1, r2, r3, r4⟩ := fin.out
        exact ⟨u', w', ι', .inl (by simp [execOp, ho, resolve, hc, invoke, builtin, r1]), r2, r3, r4⟩
    · rename_i hc
      obtain ⟨r0, w', r1, r2, r3⟩ := copyA_sound (ty := o.type) h a1 hw
      exact ⟨u, w', ι, .inl (by simp [execOp, ho, resolve, hc, invoke, builtin, r1]), r3, r2, r0⟩
    · rename_i hc
      cases hs : clearA P σ c.argTypes (c.args.map ρ) with
      | none => simp [hs] at hw
      | some σ1 =>
        simp only [hs, Option.map_some, Option.some.injEq, Prod.mk.injEq] at hw
        obtain ⟨rfl, rfl⟩ := hw
        obtain ⟨w', r1, r2, r3⟩ := clearA_sound (ty := o.type) h a1 hs
        exact ⟨undef, w', ι, .inl (by simp [execOp, ho, resolve, hc, invoke, builtin, r1]; rfl), r3, r2, VRel.undef _⟩
    · rename_i hc
      cases hs : delA P σ c.argTypes (c.args.map ρ) with
      | none => simp [hs] at hw
      | some σ1 =>
        simp only [hs, Option.map_some, Option.some.injEq, Prod.mk.injEq] at hw
        obtain ⟨rfl, rfl⟩ := hw
        obtain ⟨w', r1, r2, r3⟩ := delA_sound (ty := o.type) h a1 hs
        exact ⟨undef, w', ι, .inl (by simp [execOp, ho, resolve, hc, invoke, builtin, r1]; rfl), r3, r2, VRel.undef _⟩
  · cases hw
end
end
end Go.Idl

/- The ideal machine, part M: the machine itself. -/
namespace Go.Idl
open Go
noncomputable section

/-! ### equality of values, as far as it can be seen -/
def aeq (a b : Addr) : Bool :=
  Nat.beq a.block b.block && Nat.beq a.off b.off && (match a.spot, b.spot with | none, none => true | some x, some y => Nat.beq x y | _, _ => false)
def veq1 : Value → Value → Bool
  | .bool a, .bool b => a == b
  | .int k n, .int q m => k == q && n == m
  | .string s, .string t => s.data.toList == t.data.toList
  | .pointer none, .pointer none => true
  | .pointer (some a), .pointer (some b) => aeq a b
  | .slice none l c, .slice none l' c' => Nat.beq l l' && Nat.beq c c'
  | .slice (some a) l c, .slice (some b) l' c' => aeq a b && Nat.beq l l' && Nat.beq c c'
  | .map none, .map none => true
  | .map (some a), .map (some b) => Nat.beq a b
  | .nilFunc, .nilFunc => true
  | .nilIface, .nilIface => true
  | _, _ => false
def veqL : List Value → List Value → Bool
  | [], [] => true
  | a :: l, b :: m => veq1 a b && veqL l m
  | _, _ => false
def veq : Value → Value → Bool
  | .agg a, .agg b => veqL a.toList b.toList
  | .tuple a, .tuple b => veqL a.toList b.toList
  | .func (.func f) a c, .func (.func g) b d => Nat.beq f g && veqL a.toList b.toList && veqL c.toList d.toList
  | a, b => veq1 a b

/-! ### activations -/
structure Fr where
  n : Nat
  tm : T Value
def Fr.ev (a : Fr) : Operand → Value
  | .tmp t => (a.tm.get t).getD undef
  | .const v => v
  | .global _ => undef
  | .func f => .func (.func f) #[] #[]
def Fr.put (a : Fr) (d : Option Tmp) (v : Value) : Fr :=
  match d with
  | none => a
  | some d => { n := a.n, tm := a.tm.set d v }
inductive Tgt where
  | fn (f : FuncId) (args : Array Value)
  | round (l : Nat) (args : Array Value)
abbrev Callee := Tgt → Heap → Option (Value × Heap)
inductive Cls where
  | p | r | a | w | c | bad
def clsOf (P : Program) : Op → Cls
  | .move _ | .assign _ | .binOp .. | .extract .. | .fieldAddr .. | .indexAddr .. | .nilCheck _ | .pick .. | .slice .. | .field .. | .build .. | .makeFunc .. | .unOp .. | .index .. => .p
  | .convert src dst _ =>
    match P.underlying src, P.underlying dst with
    | some .string, some (.slice _) => .w
    | some (.slice _), some .string => .r
    | some (.slice _), some (.slice _) => .w
    | _, _ => .p
  | .load .. | .lookup .. => .r
  | .alloc _ | .box .. | .buildSlice .. | .makeSlice .. | .makeMap .. => .a
  | .store .. | .mapUpdate .. | .insert .. => .w
  | .call c =>
    match c.callee with
    | .value _ => .c
    | .builtin .append | .builtin .copy | .builtin .clear | .builtin .delete => .w
    | .builtin .len =>
      match c.argTypes[0]? with
      | some t =>
        match P.underlying t with
        | some (.map _ _) => .r
        | _ => .p
      | none => .bad
    | .builtin .cap | .builtin .min | .builtin .max => .p
    | _ => .bad
  | _ => .bad
/-- the call that an operation makes -/
def tgtOf (ρ : Env) (o : Oper) : Option Tgt :=
  match o.op with
  | .call c =>
    match c.callee with
    | .value f =>
      match ρ f with
      | .func (.func g) first cap => some (.fn g (first ++ c.args.map ρ ++ cap))
      | .func (.yield l) first _ => some (.round l (first ++ c.args.map ρ))
      | _ => none
    | _ => none
  | _ => none
/-- one operation -/
def stepD (P : Program) (R : Callee) (ρ : Env) (σ : Heap) (o : Oper) : Option (Value × Heap) :=
  match clsOf P o.op with
  | .p =>
    match pA P ρ o with
    | some v => some (v, σ)
    | none => none
  | .r =>
    match rA P ρ σ o with
    | some v => some (v, σ)
    | none => none
  | .a =>
    match aA P ρ o with
    | some (ob, mk) => some (mk σ.next, σ.new ob)
    | none => none
  | .w => wA P ρ σ o
  | .c =>
    match tgtOf ρ o with
    | some t => R t σ
    | none => none
  | .bad => none
def wantedA (ops : Array Oper) (a : Fr) (o : Oper) : Bool :=
  match o.guard with
  | none => true
  | some (j, want) =>
    match ops[j]? with
    | some oj =>
      match oj.dst with
      | some d =>
        match a.tm.get d with
        | some (.bool b) => b == want
        | _ => false
      | none => false
    | none => false
def regSeq (P : Program) (R : Callee) (ops : Array Oper) : List Oper → Fr → Heap → Option (Fr × Heap)
  | [], a, σ => some (a, σ)
  | o :: rest, a, σ =>
    bif wantedA ops a o then
      match stepD P R a.ev σ o with
      | some (v, σ') => regSeq P R ops rest (a.put o.dst v) σ'
      | none => none
    else regSeq P R ops rest (a.put o.dst undef) σ

/-! ### regions that draw their order -/
def spine (P : Program) (o : Oper) : Bool :=
  match clsOf P o.op with
  | .w | .c => true
  | _ => false
def orM : List Nat → Nat → List Nat → Nat
  | [], acc, _ => acc
  | j :: js, acc, ms => orM js (acc ||| 2 ^ j ||| ms.getD j 0) ms
/-- for each operation the set of those that come ahead of it, whatever is drawn -/
def masks : List Oper → List Nat → List Nat
  | [], ms => ms
  | o :: l, ms => masks l (ms ++ [orM ((o.after.toList.filter (Region.binds .any)).map (·.on)) 0 ms])
/-- the temporaries that an operation looks at -/
def tmpsOf (ops : Array Oper) (o : Oper) : List Tmp :=
  (match o.guard with | some (j, _) => ((ops[j]?).bind (·.dst)).toList | none => []) ++ o.op.operands.toList.filterMap fun | .tmp t => some t | _ => none
def looks (ops : Array Oper) (o q : Oper) : Bool :=
  match q.dst with
  | some d => (tmpsOf ops o).any fun t => Nat.beq t d
  | none => false
def sameDst (o q : Oper) : Bool :=
  match o.dst, q.dst with
  | some a, some b => Nat.beq a b
  | _, _ => false
def allIdx (f : Nat → Bool) : Nat → Bool
  | 0 => true
  | n + 1 => f n && allIdx f n
def pairOK (P : Program) (ops : Array Oper) (ms : List Nat) (j i : Nat) : Bool :=
  match ops[i]?, ops[j]? with
  | some o, some q => !sameDst o q && ((ms.getD j 0).testBit i || (!(spine P o && spine P q) && !looks ops o q && !looks ops q o))
  | _, _ => true
def oneOK (P : Program) (ops : Array Oper) (ms : List Nat) (i : Nat) : Bool :=
  match ops[i]? with
  | some o => (o.after.all fun e => !Region.binds .any e || Nat.blt e.on i) && (match o.guard with | some (j, _) => (ms.getD i 0).testBit j | none => true) && allIdx (pairOK P ops ms i) i
  | none => true
/-- may a region be carried out in whatever order its edges allow? -/
def drawOK (P : Program) (ops : Array Oper) (ms : List Nat) : Bool := allIdx (oneOK P ops ms) ops.size
/-- the order in which the ideal machine goes: what isn't wanted by a write or a call waits -/
structure Plan where
  stages : List (List Nat × Nat)
  tail : List Nat
def planOf (P : Program) (ops : Array Oper) (ms : List Nat) : Plan :=
  let n := ops.size
  let f := (List.range n).foldl (fun (acc : Nat × List (List Nat × Nat)) s =>
    match ops[s]? with
    | some o =>
      bif spine P o then
        let need := (List.range n).filter fun i => (ms.getD s 0).testBit i && !acc.1.testBit i
        (acc.1 ||| ms.getD s 0 ||| 2 ^ s, acc.2 ++ [(need, s)])
      else acc
    | none => acc) (0, [])
  { stages := f.2, tail := (List.range n).filter fun i => !f.1.testBit i }
def inMask (a b : Nat) : Bool := Nat.beq (a &&& b) a
def okNeed (P : Program) (ops : Array Oper) (ms : List Nat) (sm : Nat) : List Nat → Nat → Option Nat
  | [], d => some d
  | i :: l, d =>
    match ops[i]? with
    | some o => bif !spine P o && !d.testBit i && inMask (ms.getD i 0) d && sm.testBit i then okNeed P ops ms sm l (d ||| 2 ^ i) else none
    | none => none
def okStages (P : Program) (ops : Array Oper) (ms : List Nat) : List (List Nat × Nat) → List Nat → Nat → Bool
  | [], tail, d =>
    match okNeed P ops ms (2 ^ ops.size - 1) tail d with
    | some d' => Nat.beq d' (2 ^ ops.size - 1)
    | none => false
  | (need, s) :: rest, tail, d =>
    match ops[s]? with
    | some o =>
      match okNeed P ops ms (ms.getD s 0) need d with
      | some d' => spine P o && !d'.testBit s && inMask (ms.getD s 0) d' && okStages P ops ms rest tail (d' ||| 2 ^ s)
      | none => false
    | none => false
def allSame (f : Heap → Option Value) (v : Value) : List Heap → Bool
  | [] => true
  | σ :: l => (match f σ with | some u => veq u v | none => false) && allSame f v l
def countIdx (f : Nat → Bool) : Nat → Nat
  | 0 => 0
  | n + 1 => (bif f n then 1 else 0) + countIdx f n
/-- how many writes and calls come ahead of an operation -/
def spinesIn (P : Program) (ops : Array Oper) (m : Nat) : Nat := countIdx (fun i => m.testBit i && (match ops[i]? with | some o => spine P o | none => false)) ops.size
def heldH (σ : Heap) (n : Nat) : Heap := { next := σ.next + n, objs := σ.objs }
def puts (base : Nat) : List (Nat × AObj) → Heap → Heap
  | [], σ => σ
  | (i, ob) :: l, σ => puts base l (σ.put (base + i) ob)
/-- what is neither a write nor a call; hs: the heaps at the region's start and behind each write and call so far -/
def preD (P : Program) (ops : Array Oper) (ms : List Nat) (base : Nat) (hs : List Heap) : List Nat → Fr → Option (Fr × List (Nat × AObj))
  | [], a => some (a, [])
  | i :: l, a =>
    match ops[i]? with
    | none => none
    | some o =>
      bif wantedA ops a o then
        match clsOf P o.op with
        | .p =>
          match pA P a.ev o with
          | some v => preD P ops ms base hs l (a.put o.dst v)
          | none => none
        | .r =>
          match hs.drop (spinesIn P ops (ms.getD i 0)) with
          | [] => none
          | τ :: more =>
            match rA P a.ev τ o with
            | some v => bif allSame (fun τ => rA P a.ev τ o) v more then preD P ops ms base hs l (a.put o.dst v) else none
            | none => none
        | .a =>
          match aA P a.ev o with
          | some (ob, mk) =>
            match preD P ops ms base hs l (a.put o.dst (mk (base + i))) with
            | some (a', obs) => some (a', (i, ob) :: obs)
            | none => none
          | none => none
        | _ => none
      else preD P ops ms base hs l (a.put o.dst undef)
def stagesD (P : Program) (R : Callee) (ops : Array Oper) (ms : List Nat) (base : Nat) : List (List Nat × Nat) → List Nat → Fr → Heap → List Heap → Option (Fr × Heap)
  | [], tail, a, σ, hs =>
    match preD P ops ms base hs tail a with
    | some (a', obs) => some (a', puts base obs σ)
    | none => none
  | (need, s) :: rest, tail, a, σ, hs =>
    match preD P ops ms base hs need a with
    | none => none
    | some (a', obs) =>
      match ops[s]? with
      | none => none
      | some o =>
        bif wantedA ops a' o then
          match stepD P R a'.ev (puts base obs σ) o with
          | some (v, σ') => stagesD P R ops ms base rest tail (a'.put o.dst v) σ' (hs ++ [σ'])
          | none => none
        else stagesD P R ops ms base rest tail (a'.put o.dst undef) (puts base obs σ) (hs ++ [puts base obs σ])
def regDraw (P : Program) (R : Callee) (ops : Array Oper) (a : Fr) (σ : Heap) : Option (Fr × Heap) :=
  let ms := masks ops.toList []
  let pl := planOf P ops ms
  bif drawOK P ops ms && okStages P ops ms pl.stages pl.tail 0 then stagesD P R ops ms σ.next pl.stages pl.tail a (heldH σ ops.size) [heldH σ ops.size] else none

/-! ### statements -/
inductive AExit where
  | normal
  | exit (id : Nat)
  | ret
/-- an activation, and how many marks it has among its deferred calls -/
structure St where
  fr : Fr
  df : Nat
abbrev Res := Option (AExit × St × Heap)
def loopD (body : St → Heap → Res) : Nat → St → Heap → Res
  | 0, _, _ => none
  | k + 1, st, σ =>
    match body st σ with
    | some (.normal, st', σ') => loopD body k st' σ'
    | r => r
def jumpOf : Option Code → Option AExit
  | none => some .normal
  | some .ret => some .ret
  | some (.exit id) => some (.exit id)
  | _ => none
def codeOf : AExit → Option Code
  | .normal => none
  | .ret => some .ret
  | .exit id => some (.exit id)
def loopOf (σ : Heap) (l : Nat) : Option ALoop :=
  match σ.obj l with
  | .loop a => some a
  | _ => none
def hasBody (P : Program) (g : FuncId) : Bool :=
  match P.funcs[g]? with
  | some fn => fn.body.isSome
  | none => false
def codeD (P : Program) (L : Nat) (R : Callee) (inR : Bool) : Code → St → Heap → Res
  | .skip, st, σ => some (.normal, st, σ)
  | .label _, st, σ => some (.normal, st, σ)
  | .seq x y, st, σ =>
    match codeD P L R inR x st σ with
    | some (.normal, st', σ') => codeD P L R inR y st' σ'
    | r => r
  | .cond c x y, st, σ =>
    match st.fr.ev c with
    | .bool b => bif b then codeD P L R inR x st σ else codeD P L R inR y st σ
    | _ => none
  | .block id x, st, σ =>
    match codeD P L R inR x st σ with
    | some (.exit i, st', σ') => bif Nat.beq i id then some (.normal, st', σ') else some (.exit i, st', σ')
    | r => r
  | .loop x, st, σ => loopD (fun st σ => codeD P L R inR x st σ) L st σ
  | .exit id, st, σ => some (.exit id, st, σ)
  | .ret, st, σ => some (.ret, st, σ)
  | .scope x, st, σ => codeD P L R inR x st σ
  | .region _ ops draw, st, σ =>
    match (bif draw then regDraw P R ops st.fr σ else regSeq P R ops ops.toList st.fr σ) with
    | some (a, σ') => some (.normal, { fr := a, df := st.df }, σ')
    | none => none
  | .rangeFunc f ps assign body, st, σ =>
    bif inR then none else
    match st.fr.ev f with
    | .func (.func g) first cap =>
      let l := σ.next
      match R (.fn g (first ++ #[.func (.yield l) #[] #[]] ++ cap)) (σ.new (.loop { n := st.fr.n, tm := st.fr.tm, params := ps, assign, body, state := .ready, pending := none })) with
      | some (_, σ') =>
        match loopOf σ' l with
        | some a =>
          match a.state, jumpOf a.pending with
          | .busy, _ => none
          | _, none => none
          | _, some e => bif hasBody P g then some (e, { fr := st.fr, df := st.df + 1 }, σ'.put l (.loop { a with state := .exhausted })) else none
        | none => none
      | none => none
    | _ => none
  | .goto _, _, _ => none
  | .refuse _, _, _ => none

/-! ### what is asked of a function's text -/
def xOK : Operand → Bool
  | .tmp _ => true
  | .const v => gnd v
  | .global _ => false
  | .func _ => true
def operOK (n : Nat) (o : Oper) : Bool := allA o.op.operands xOK && (match o.dst with | some d => Nat.blt d n | none => true)
def codeOK (n : Nat) : Code → Bool
  | .seq x y => codeOK n x && codeOK n y
  | .cond c x y => xOK c && codeOK n x && codeOK n y
  | .block _ x => codeOK n x
  | .loop x => codeOK n x
  | .scope x => codeOK n x
  | .region _ ops _ => allA ops (operOK n)
  | .rangeFunc f ps a b => xOK f && allA ps (fun t => Nat.blt t n) && codeOK n a && codeOK n b
  | _ => true
def funcOK (fn : Func) : Bool :=
  (fn.name != "runtime.NumGoroutine") && (match fn.body with | some c => codeOK fn.ntmps c | none => false)
def resultsA (P : Program) (a : Fr) (σ : Heap) : List ResultVar → Option (List Value)
  | [] => some []
  | .tmp t :: l =>
    match resultsA P a σ l with
    | some vs => some (a.ev (.tmp t) :: vs)
    | none => none
  | .cell x t :: l =>
    match loadA P σ t (a.ev (.tmp x)), resultsA P a σ l with
    | some v, some vs => some (v :: vs)
    | _, _ => none
def packR : List Value → Value
  | [v] => v
  | vs => .tuple vs.toArray
abbrev Summary := Callee → Array Value → Heap → Option (Value × Heap)
def setTmps : T Value → List Tmp → List Value → T Value
  | tm, t :: ts, v :: vs => setTmps (tm.set t v) ts vs
  | tm, _, _ => tm
/-- the machine, so and so deep -/
def exec (P : Program) (S : FuncId → Option Summary) : Nat → Callee
  | 0 => fun _ _ => none
  | k + 1 => fun t σ =>
    match t with
    | .fn f args =>
      match S f with
      | some s => s (exec P S k) args σ
      | none =>
        match P.funcs[f]? with
        | none => none
        | some fn =>
          bif funcOK fn && Nat.ble args.size fn.ntmps then
            match fn.body with
            | none => none
            | some c =>
              match codeD P k (exec P S k) false c { fr := { n := fn.ntmps, tm := T.ofL .e 0 args.toList }, df := 0 } σ with
              | some (.normal, st, σ') | some (.ret, st, σ') =>
                match resultsA P st.fr σ' fn.results.toList with
                | some vs => some (packR vs, σ')
                | none => none
              | _ => none
          else none
    | .round l args =>
      match loopOf σ l with
      | none => none
      | some a =>
        bif Nat.beq args.size a.params.size && allA a.params (fun t => Nat.blt t a.n) && codeOK a.n a.assign && codeOK a.n a.body then
          match codeD P k (exec P S k) true a.assign { fr := { n := a.n, tm := setTmps a.tm a.params.toList args.toList }, df := 0 } σ with
          | some (.normal, st, σ1) =>
            match loopOf σ1 l with
            | none => none
            | some a1 =>
              match a1.state with
              | .ready =>
                match codeD P k (exec P S k) true a.body st (σ1.put l (.loop { a1 with state := .busy })) with
                | some (e, _, σ2) =>
                  match loopOf σ2 l with
                  | none => none
                  | some a2 =>
                    match e with
                    | .normal => some (.bool true, σ2.put l (.loop { a2 with state := .ready, pending := none }))
                    | e => some (.bool false, σ2.put l (.loop { a2 with state := .done, pending := codeOf e }))
                | none => none
              | _ => none
          | _ => none
        else none
end
end Go.Idl

/- The ideal machine, part N: one operation, and regions in the order of the text. -/
namespace Go.Idl
open Go
noncomputable section

structure FrRel (ι : Inj) (a : Fr) (A : Array Value) : Prop where
  n : A.size = a.n
  tm : TRel ι a.tm A
theorem FrRel.mono {ι ι' : Inj} (h : ι.le ι') {a : Fr} {A : Array Value} (r : FrRel ι a A) : FrRel ι' a A := ⟨r.n, r.tm.mono h⟩
theorem FrRel.ev {ι : Inj} {a : Fr} {A : Act} (r : FrRel ι a A.tmps) {x : Operand} (hx : xOK x = true) : VRel ι (a.ev x) (A.eval x) := by
  cases x with
  | tmp t => exact r.tm t
  | const v =>
    have hg : gnd v = true := by simpa [xOK] using hx
    exact VRel.refl hg
  | global g => simp [xOK] at hx
  | func f => exact .func (.func f) rfl (fun i v v' h => by simp at h) rfl (fun i v v' h => by simp at h)
theorem FrRel.erel {ι : Inj} {a : Fr} {A : Act} (r : FrRel ι a A.tmps) {n : Nat} {o : Oper} (ho : operOK n o = true) : ERel ι a.ev A.eval o.op := by
  intro x hx
  simp only [operOK, Bool.and_eq_true] at ho
  exact r.ev (allA_mem ho.1 x hx)
theorem FrRel.put {ι : Inj} {a : Fr} {A : Act} (r : FrRel ι a A.tmps) {d : Option Tmp} {v v' : Value} (hd : (match d with | some d => Nat.blt d a.n | none => true) = true) (hv : VRel ι v v') :
    FrRel ι (a.put d v) (A.put d v').tmps := by
  cases d with
  | none => exact r
  | some d =>
    have hlt : d < A.tmps.size := by rw [r.n]; simp only at hd; rw [nblt] at hd; simpa using hd
    refine ⟨by simpa [Act.put, Fr.put] using r.n, fun i => ?_⟩
    simp only [Act.put, Fr.put, T.get_set]
    by_cases hi : i = d
    · subst hi
      rw [if_pos rfl]
      simp [hlt, hv]
    · rw [if_neg hi]
      have := r.tm i
      simp only [Array.getD_eq_getD_getElem?] at this ⊢
      rw [Array.getElem?_setIfInBounds_ne (Ne.symm hi)]
      exact this
@[simp] theorem Fr.n_put (a : Fr) (d : Option Tmp) (v : Value) : (a.put d v).n = a.n := by cases d <;> rfl
theorem wanted_eq {ι : Inj} {a : Fr} {A : Array Value} (r : FrRel ι a A) (ops : Array Oper) (o : Oper) : Region.wanted o (yielded ops A) = wantedA ops a o := by
  unfold Region.wanted wantedA
  cases o.guard with
  | none => rfl
  | some p =>
    obtain ⟨j, want⟩ := p
    simp only [yielded]
    cases hj : ops[j]? with
    | none => simp
    | some oj =>
      simp only [Option.bind_some]
      cases hd : oj.dst with
      | none => simp
      | some d =>
        simp only [Option.bind_some]
        have := r.tm d
        simp only [Array.getD_eq_getD_getElem?] at this
        cases hg : a.tm.get d with
        | none =>
          rw [hg] at this
          simp only [Option.getD_none] at this
          cases hA : A[d]? with
          | none => simp
          | some v =>
            rw [hA] at this
            simp only [Option.getD_some] at this
            cases this; simp
        | some u =>
          rw [hg] at this
          simp only [Option.getD_some] at this
          cases hA : A[d]? with
          | none =>
            rw [hA] at this
            simp only [Option.getD_none, undef] at this
            cases this; simp
          | some v =>
            rw [hA] at this
            simp only [Option.getD_some] at this
            cases this <;> simp

/-- what becomes of a call that is asked for -/
def Goes (P : Program) (ext : Prop) (s : Sem Next) (w : World) (K : Value → World → Prop) : Prop :=
  (ext ∧ ∃ v w', s.run P w = .ok (.value v) w' ∧ K v w') ∨
  (∃ f args w', s.run P w = .ok (.enter f args) w' ∧ ∀ n, CallsIn Fence.wide n P f args w' fun e w'' => ∃ v, e = .returned v ∧ K v w'') ∨
  (ext ∧ ∃ l f tmps as b w', s.run P w = .ok (.round l f tmps as b) w' ∧ ∀ n, RoundIn Fence.wide n P l f tmps as b w' fun e w'' => ∃ v, e = .returned v ∧ K v w'')
def After (ι : Inj) (w : World) (v : Value) (σ' : Heap) : Value → World → Prop := fun v' w' => ∃ ι', Kept ι w ι' w' ∧ Rel ι' σ' w' ∧ VRel ι' v v'
def noBody (P : Program) (f : FuncId) : Prop := ∀ fn, P.funcs[f]? = some fn → fn.body = none
def CalleeOK (P : Program) (R : Callee) : Prop := ∀ t σ v σ', R t σ = some (v, σ') → ∀ ι w, Rel ι σ w →
  match t with
  | .fn f args => ∀ args', ARel ι args args' → Goes P (noBody P f) (callFunc f args') w (After ι w v σ')
  | .round l args => ∀ L args', ι l = some L → ARel ι args args' → Goes P True (Instr.yield L.blk args') w (After ι w v σ')
/-- fences of whose frames the machine speaks -/
def Wide (F : Fence) : Prop := F = Fence.wide ∨ ∃ l, F = Fence.wide.inRound l
theorem Wide.fn {F : Fence} (h : Wide F) (f : FuncId) : F.fn f := by
  rcases h with rfl | ⟨l, rfl⟩ <;> trivial
theorem Wide.depth {F : Fence} (h : Wide F) : F.depth = none := by
  rcases h with rfl | ⟨l, rfl⟩ <;> rfl
theorem Wide.calls {F : Fence} (h : Wide F) {n : Nat} {P : Program} {f : FuncId} {args : Array Value} {w : World} {R : Ending → World → Prop}
    (c : CallsIn Fence.wide n P f args w R) : CallsIn F n P f args w R := by
  rcases h with rfl | ⟨l, rfl⟩
  · exact c
  · exact c
theorem Wide.rounds {F : Fence} (h : Wide F) {n : Nat} {P : Program} {l : Nat} {f : FuncId} {tmps : Array Value} {as b : Code} {w : World} {R : Ending → World → Prop}
    (c : RoundIn Fence.wide n P l f tmps as b w R) : RoundIn F n P l f tmps as b w R := by
  rcases h with rfl | ⟨l, rfl⟩
  · exact c
  · exact c
section
variable {P : Program} {ι : Inj} {σ : Heap} {w : World}
theorem noDefer {o : Oper} {v : Value} {σ' : Heap} {R : Callee} {ρ : Env} (h : stepD P R ρ σ o = some (v, σ')) : ∀ c, o.op ≠ .defer c := by
  intro c hc
  unfold stepD at h
  rw [hc] at h
  simp [clsOf] at h
theorem arr_app {a a' b b' : Array Value} (h : ARel ι a a') (g : ARel ι b b') : ARel ι (a ++ b) (a' ++ b') := by
  refine ⟨by simp [h.1, g.1], fun i v v' h1 h2 => ?_⟩
  rw [Array.getElem?_append] at h1 h2
  split at h1
  · rename_i hlt
    rw [if_pos (by rw [← h.1]; exact hlt)] at h2
    exact h.2 i v v' h1 h2
  · rename_i hlt
    rw [if_neg (by rw [← h.1]; exact hlt)] at h2
    rw [← h.1] at h2
    exact g.2 _ v v' h1 h2
/-- one operation: what it comes to in the world -/
inductive OpGoes (P : Program) (s : Sem Next) (w : World) (K : Value → World → Prop) : Prop
  | value {v : Value} {w' : World} : s.run P w = .ok (.value v) w' → K v w' → OpGoes P s w K
  | skip {w' : World} : s.run P w = .ok .skip w' → K undef w' → OpGoes P s w K
  | enter {f : FuncId} {args : Array Value} {w' : World} : s.run P w = .ok (.enter f args) w' → (∀ n, CallsIn Fence.wide n P f args w' fun e w'' => ∃ v, e = .returned v ∧ K v w'') → OpGoes P s w K
  | round {l : Nat} {f : FuncId} {tmps : Array Value} {as b : Code} {w' : World} : s.run P w = .ok (.round l f tmps as b) w' →
      (∀ n, RoundIn Fence.wide n P l f tmps as b w' fun e w'' => ∃ v, e = .returned v ∧ K v w'') → OpGoes P s w K
theorem OpGoes.wpIn {F : Fence} (hF : Wide F) {n : Nat} {o : Oper} {A : Act} {K : Value → World → Prop} {next : Act → World → Prop} {Q : Exit → Act → World → Prop} (hd : ∀ c, o.op ≠ .defer c)
    (h : OpGoes P (execOp A.eval o) w K) (hk : ∀ v w', K v w' → next (A.put o.dst v) w') : o.wpIn F n P A w next Q := by
  refine ⟨fun f _ => hF.fn f, ?_⟩
  rw [Oper.semAt_eq _ _ _ hd]
  have hdep : F.depth.isSome = true → 1 ≤ n := by rw [hF.depth]; intro h; cases h
  cases h with
  | value hr hK => rw [hr]; exact hk _ _ hK
  | skip hr hK => rw [hr]; exact hk _ _ hK
  | enter hr hc =>
    rw [hr]
    refine ⟨hdep, (hF.calls (hc (n - 1))).mono ?_⟩
    rintro e w'' ⟨v, rfl, hK⟩
    exact hk _ _ hK
  | round hr hc =>
    rw [hr]
    refine ⟨hdep, (hF.rounds (hc (n - 1))).mono ?_⟩
    rintro e w'' ⟨v, rfl, hK⟩
    exact hk _ _ hK
theorem stepD_sound {R : Callee} (hR : CalleeOK P R) (h : Rel ι σ w) {ρ ρ' : Env} {o : Oper} {v : Value} {σ' : Heap} (hρ : ERel ι ρ ρ' o.op) (hs : stepD P R ρ σ o = some (v, σ')) :
    OpGoes P (execOp ρ' o) w (After ι w v σ') := by
  unfold stepD at hs
  split at hs
  · split at hs <;> try (cases hs; done)
    rename_i u hu
    cases hs
    obtain ⟨u', h1, h2⟩ := pA_sound hρ hu
    exact .value (h2 w) ⟨ι, Kept.refl _ _, h, h1⟩
  · split at hs <;> try (cases hs; done)
    rename_i u hu
    cases hs
    obtain ⟨u', h1, h2⟩ := rA_sound h hρ hu
    exact .value h2 ⟨ι, Kept.refl _ _, h, h1⟩
  · split at hs <;> try (cases hs; done)
    rename_i ob mk hu
    cases hs
    obtain ⟨o', z, mk', h1, h2, h3⟩ := aA_sound hρ hu
    have hle := Inj.le_add (ι := ι) (b := σ.next) ⟨w.heap.size, 0, z, false⟩ h.next_none
    have hn := h.new (z := z) (o := ob) (o' := o') ((h1.mono hle).at (by simp only [World.alloc]; simp))
    exact .value (h2 w) ⟨_, hn.2, hn.1, h3 _ _ _ (Inj.add_same _ _ _)⟩
  · obtain ⟨u', w', ι', h1, h2, h3, h4⟩ := wA_sound h hρ hs
    rcases h1 with h1 | ⟨h1, rfl⟩
    · exact .value h1 ⟨ι', h2, h3, h4⟩
    · exact .skip h1 ⟨ι', h2, h3, h4⟩
  · split at hs <;> try (cases hs; done)
    rename_i t ht
    unfold tgtOf at ht
    split at ht <;> try (cases ht; done)
    rename_i c ho
    split at ht <;> try (cases ht; done)
    rename_i f hc
    have hargs := arr_map_rel (ι := ι) (xs := c.args) (ρ := ρ) (ρ' := ρ') fun x hx => hρ x (by simp [ho, Op.operands, Call.operands, hx])
    have hf := hρ f (by simp [ho, Op.operands, Call.operands, hc])
    have fin : ∀ {ext : Prop} {s : Sem Next}, (execOp ρ' o).run P w = s.run P w → Goes P ext s w (After ι w v σ') → OpGoes P (execOp ρ' o) w (After ι w v σ') := by
      intro ext s he hg
      rcases hg with ⟨_, v', w', h1, h2⟩ | ⟨f', args, w', h1, h2⟩ | ⟨_, l, f', tmps, as, b, w', h1, h2⟩
      · exact .value (he.trans h1) h2
      · exact .enter (he.trans h1) h2
      · exact .round (he.trans h1) h2
    split at ht <;> try (cases ht; done)
    · rename_i g first cap hv
      cases ht
      rw [hv] at hf
      cases hf' : ρ' f <;> rw [hf'] at hf <;> cases hf
      rename_i fn' a' b' hfn q1 q2 q3 q4
      cases hfn
      have := hR _ _ _ _ hs ι w h
      refine fin ?_ (this _ (arr_app (arr_app ⟨q1, q2⟩ hargs) ⟨q3, q4⟩))
      simp [execOp, ho, resolve, hc, hf', Deferred.ofValue, invoke]
    · rename_i l first cap hv
      cases ht
      rw [hv] at hf
      cases hf' : ρ' f <;> rw [hf'] at hf <;> cases hf
      rename_i fn' a' b' hfn q1 q2 q3 q4
      cases hfn with
      | yield hb =>
        have := hR _ _ _ _ hs ι w h
        refine fin ?_ (this _ _ hb (arr_app ⟨q1, q2⟩ hargs))
        simp [execOp, ho, resolve, hc, hf', Deferred.ofValue, invoke]
  · cases hs
theorem After.trans {ι1 : Inj} {w1 : World} {v : Value} {σ' : Heap} {v' : Value} {w' : World} (k : Kept ι w ι1 w1) (h : After ι1 w1 v σ' v' w') : After ι w v σ' v' w' := by
  obtain ⟨ι', h1, h2, h3⟩ := h
  exact ⟨ι', k.trans h1, h2, h3⟩
theorem regSeq_sound {R : Callee} (hR : CalleeOK P R) {F : Fence} (hF : Wide F) {n : Nat} {ops : Array Oper} {Q : Exit → Act → World → Prop} : ∀ (l : List Oper) (k : Nat) (a a1 : Fr) (σ σ1 : Heap) (ι : Inj) (w : World) (A : Act),
    (∀ i, l[i]? = ops[k + i]?) → (∀ o ∈ l, operOK a.n o = true) → regSeq P R ops l a σ = some (a1, σ1) → Rel ι σ w → FrRel ι a A.tmps →
    (∀ ι' A' w', Kept ι w ι' w' → Rel ι' σ1 w' → FrRel ι' a1 A'.tmps → A'.defers = A.defers → Q .normal A' w') → wpOpsIn F n P ops Q (List.range' k l.length) A w
  | [], k, a, a1, σ, σ1, ι, w, A, _, _, hs, h, hfr, hQ => by
    simp only [regSeq, Option.some.injEq, Prod.mk.injEq] at hs
    obtain ⟨rfl, rfl⟩ := hs
    exact hQ ι A w (Kept.refl _ _) h hfr rfl
  | o :: l, k, a, a1, σ, σ1, ι, w, A, hl, hok, hs, h, hfr, hQ => by
    have hk : ops[k]? = some o := by have := hl 0; simpa using this.symm
    have hl' : ∀ i, l[i]? = ops[k + 1 + i]? := fun i => by have := hl (i + 1); simpa [Nat.add_assoc, Nat.add_comm 1] using this
    have hoo := hok o (by simp)
    have hd : (match o.dst with | some d => Nat.blt d a.n | none => true) = true := by simp only [operOK, Bool.and_eq_true] at hoo; exact hoo.2
    simp only [List.length_cons, List.range'_succ, wpOpsIn, hk]
    rw [wanted_eq hfr]
    simp only [regSeq] at hs
    cases hw : wantedA ops a o with
    | true =>
      rw [hw] at hs
      simp only [cond_true] at hs
      simp only [if_true]
      split at hs <;> try (cases hs; done)
      rename_i v σ' hst
      refine (stepD_sound hR h (hfr.erel hoo) hst).wpIn hF (noDefer hst) fun v' w' hk' => ?_
      obtain ⟨ι', k1, k2, k3⟩ := hk'
      refine regSeq_sound hR hF l (k + 1) _ a1 σ' σ1 ι' w' _ hl' (fun o' ho' => by simpa using hok o' (by simp [ho'])) hs k2 ((hfr.mono k1.le).put hd k3) fun ι2 A2 w2 q1 q2 q3 q4 => hQ ι2 A2 w2 (k1.trans q1) q2 q3 ?_
      rw [q4]; cases o.dst <;> rfl
    | false =>
      rw [hw] at hs
      simp only [cond_false] at hs
      simp only [Bool.false_eq_true, if_false]
      refine ⟨fun f _ => hF.fn f, ?_⟩
      refine regSeq_sound hR hF l (k + 1) _ a1 σ σ1 ι w _ hl' (fun o' ho' => by simpa using hok o' (by simp [ho'])) hs h (hfr.put hd (VRel.undef ι)) fun ι2 A2 w2 q1 q2 q3 q4 => hQ ι2 A2 w2 q1 q2 q3 ?_
      rw [q4]; cases o.dst <;> rfl
end
end
end Go.Idl

/- The ideal machine, part P: statements. -/
namespace Go.Idl
open Go
noncomputable section

section
variable {P : Program} {ι : Inj} {σ : Heap} {w : World}
/-- the marks among an activation's deferred calls: their blocks are unlike, and no object's -/
def DfRel (N0 : Nat) (ι : Inj) (w : World) (k : Nat) (ds : List Deferred) : Prop :=
  ∃ rs : List Nat, rs.length = k ∧ ds = rs.map (fun r => ({ target := .collected r, args := #[] } : Deferred)) ∧ rs.Nodup ∧
    ∀ r ∈ rs, N0 ≤ r ∧ r < w.heap.size ∧ w.heap[r]? = some (.deferred (some [])) ∧ Unm ι r
theorem DfRel.nil (N0 : Nat) (ι : Inj) (w : World) : DfRel N0 ι w 0 [] := ⟨[], rfl, rfl, List.nodup_nil, fun r hr => by cases hr⟩
theorem DfRel.kept {N0 : Nat} {ι' : Inj} {w' : World} {k : Nat} {ds : List Deferred} (h : DfRel N0 ι w k ds) (hk : Kept ι w ι' w') : DfRel N0 ι' w' k ds := by
  obtain ⟨rs, h1, h2, h3, h4⟩ := h
  refine ⟨rs, h1, h2, h3, fun r hr => ?_⟩
  obtain ⟨g1, g2, g3, g4⟩ := h4 r hr
  obtain ⟨q1, q2⟩ := hk.old r g2 g4
  exact ⟨g1, Nat.lt_of_lt_of_le g2 hk.size, q1.trans g3, q2⟩
def toExit : AExit → Exit
  | .normal => .normal
  | .exit id => .exit id
  | .ret => .ret
structure PostC (N0 : Nat) (ι : Inj) (w : World) (m : Nat) (e : AExit) (st : St) (σ' : Heap) (X : Exit) (A : Act) (w' : World) : Prop where
  out : ∃ ι', X = toExit e ∧ Kept ι w ι' w' ∧ Rel ι' σ' w' ∧ FrRel ι' st.fr A.tmps ∧ DfRel N0 ι' w' st.df A.defers ∧ st.fr.n = m
theorem PostC.from {N0 m : Nat} {ι1 : Inj} {w1 : World} {e : AExit} {st : St} {σ' : Heap} {X : Exit} {A : Act} {w' : World} (k : Kept ι w ι1 w1) (h : PostC N0 ι1 w1 m e st σ' X A w') : PostC N0 ι w m e st σ' X A w' := by
  obtain ⟨ι', h1, h2, h3, h4, h5, h6⟩ := h.out
  exact ⟨ι', h1, k.trans h2, h3, h4, h5, h6⟩
/-- a loop, by the number of rounds that are left -/
theorem wpIn_loop_fuel {F : Fence} {n : Nat} {c : Code} {Q : Exit → Act → World → Prop} (I : Nat → Act → World → Prop) (h0 : ∀ a w, ¬ I 0 a w)
    (round : ∀ j a w, I (j + 1) a w → c.wpIn F n P (Exit.then (fun a' w' => I j a' w') Q) a w) : ∀ (j : Nat) (a : Act) (w : World), I j a w → (Code.loop c).wpIn F n P Q a w := by
  intro j a w hI b k cs hro hb hr
  have key : ∀ j a w, I j a w →
      ∃ e a' w', Q e a' w' ∧ ArrivesIn (Machine.fenced P F) P (lone (b.atR a (.code c :: .inLoop c :: k)) cs w) b k cs e a' w' := by
    intro j
    induction j with
    | zero => intro a w h; exact absurd h (h0 a w)
    | succ j ih =>
      intro a w hI
      obtain ⟨e, a₁, w₁, hq, harr⟩ := round j a w hI b (.inLoop c :: k) cs hro hb hr
      cases e with
      | normal =>
        obtain ⟨e₂, a₂, w₂, hq₂, harr₂⟩ := ih a₁ w₁ hq
        exact ⟨e₂, a₂, w₂, hq₂, .of_steps (StepsIn.trans harr (.one (fenced_calm hb hr rfl) stepR_inLoop)) harr₂⟩
      | exit id => exact ⟨_, a₁, w₁, hq, .pass (x := .inLoop c) rfl (fun _ _ => .inl (by simp)) harr⟩
      | goto l => exact ⟨_, a₁, w₁, hq, .pass (x := .inLoop c) rfl (fun _ _ => .inl (by simp)) harr⟩
      | ret => exact ⟨_, a₁, w₁, hq, .pass (x := .inLoop c) rfl (fun _ _ => .inl (by simp)) harr⟩
      | panic ch => exact ⟨_, a₁, w₁, hq, .pass (x := .inLoop c) rfl (fun _ _ => .inl (by simp)) harr⟩
      | outgrown => exact ⟨_, a₁, w₁, hq, .pass (x := .inLoop c) rfl (fun _ _ => .inl (by simp)) harr⟩
  obtain ⟨e, a', w', hq, harr⟩ := key j a w hI
  exact ⟨e, a', w', hq, .of_steps (.one (fenced_calm hb hr rfl) stepR_loop) harr⟩
/-- a scope that is left in no way by a goto -/
theorem stepR_scope {b : Frame} {a : Act} {k : List Item} {cs : List Frame} {w : World} {c : Code} : step P (lone (b.atR a (.code (.scope c) :: k)) cs w) = .next (lone (b.atR a (.code c :: .inScope c :: k)) cs w) :=
  step_lone_go (by simp [stepG, stepG.exec, Frame.atR])
theorem stepR_inScope {b : Frame} {a : Act} {k : List Item} {cs : List Frame} {w : World} {c : Code} : step P (lone (b.atR a (.inScope c :: k)) cs w) = .next (lone (b.atR a k) cs w) :=
  step_lone_go (by simp [stepG, stepG.exec, Frame.atR])
theorem wpIn_scope {F : Fence} {n : Nat} {c : Code} {Q : Exit → Act → World → Prop} {a : Act} {w : World} (hq : ∀ l a w, ¬ Q (.goto l) a w) (h : c.wpIn F n P Q a w) : (Code.scope c).wpIn F n P Q a w := by
  intro b k cs hro hb hr
  have h0 : (lone (b.atR a (.code (.scope c) :: k)) cs w).fenced P F := fenced_calm hb hr rfl
  obtain ⟨e, a₁, w₁, hq1, harr⟩ := h b (.inScope c :: k) cs hro hb hr
  have hx : ∀ id, exitTo id (.inScope c :: k) = exitTo id k := fun id => rfl
  cases e with
  | normal => exact ⟨.normal, a₁, w₁, hq1, .head h0 stepR_scope (StepsIn.trans harr (.one (fenced_calm hb hr rfl) stepR_inScope))⟩
  | exit id =>
    exact ⟨_, a₁, w₁, hq1, fun k' hk => .head h0 stepR_scope (harr.1 k' (by rw [hx]; exact hk)), fun hr' hk => let ⟨k₁, h1, h2⟩ := harr.2 hr' (by rw [hx]; exact hk); ⟨k₁, h1, .head h0 stepR_scope h2⟩⟩
  | goto l => exact absurd hq1 (hq l _ _)
  | ret => exact ⟨_, a₁, w₁, hq1, .of_steps (.one h0 stepR_scope) harr⟩
  | panic ch => exact ⟨_, a₁, w₁, hq1, .of_steps (.one h0 stepR_scope) harr⟩
  | outgrown => exact ⟨_, a₁, w₁, hq1, .of_steps (b := b) (k := k) (cs := cs) (e := .outgrown) (.one h0 stepR_scope) harr⟩
/-- a loop's record is turned -/
theorem Rel.setLoop (h : Rel ι σ w) {r : Nat} {a a2 : ALoop} {a2' : Loop} {l : Loc} (hr : σ.obj r = .loop a) (hl : ι r = some l) (he : LoopRel ι a2 a2') :
    Rel ι (σ.put r (.loop a2)) (World.setObj w l.blk (.loop a2')) ∧ Kept ι w ι (World.setObj w l.blk (.loop a2')) := by
  obtain ⟨l', hl', hob⟩ := h.at_ r (by rw [hr]; rfl)
  rw [hl] at hl'; cases hl'
  rw [hr] at hob
  obtain ⟨hro, es', h1, h2⟩ := hob
  have hlt := (h.dom r l hl).2
  have hoth : ∀ c m, c ≠ r → (σ.obj c).live = true → ι c = some m → m.blk ≠ l.blk := by
    intro c m hc hcl hm hh
    rcases h.sep r c l m (Ne.symm hc) (by rw [hr]; rfl) hcl hl hm hh.symm with ⟨g, _⟩ | ⟨a, b, g, _⟩
    · rw [hro] at g; cases g
    · rw [hr] at g; cases g
  have hobj : ∀ c, (σ.put r (.loop a2)).obj c = if c = r then .loop a2 else σ.obj c := fun c => Heap.obj_put _ _ _ _
  refine ⟨⟨fun c m hm => by simpa using h.dom c m hm, fun c hc => ?_, fun c hc => ?_, fun x y lx ly hne hx hy hlx hly hh => ?_, by simpa using h.top⟩, ⟨.refl _, by simp, fun B hB hu => ⟨?_, hu⟩, rfl, rfl, rfl, ι.more⟩⟩
  · have hc' : σ.next ≤ c := by simpa using hc
    have : c ≠ r := fun hh => by have := (h.dom r l hl).1; omega
    rw [hobj, if_neg this]; exact h.fresh c hc'
  · rw [hobj] at hc ⊢
    by_cases hcr : c = r
    · subst hcr
      rw [if_pos rfl]
      exact ⟨l, hl, hro, a2', by rw [heap_setObj _ _ _ _ hlt]; simp, he⟩
    · rw [if_neg hcr] at hc ⊢
      obtain ⟨m, hm, ho⟩ := h.at_ c hc
      exact ⟨m, hm, ho.mono (.refl _) (by rw [heap_setObj _ _ _ _ hlt, if_neg (hoth c m hcr hc hm)])⟩
  · rw [hobj] at hx hy
    by_cases hxr : x = r
    · subst hxr
      rw [if_neg (Ne.symm hne)] at hy
      rw [hl] at hlx; cases hlx
      exact (hoth y ly (Ne.symm hne) hy hly hh.symm).elim
    · by_cases hyr : y = r
      · subst hyr
        rw [if_neg hxr] at hx
        rw [hl] at hly; cases hly
        exact (hoth x lx hxr hx hlx hh).elim
      · rw [if_neg hxr] at hx; rw [if_neg hyr] at hy
        refine (h.sep x y lx ly hne hx hy hlx hly hh).imp id ?_
        rintro ⟨a, b, g1, g2, g3⟩
        exact ⟨a, b, by rw [hobj, if_neg hxr]; exact g1, by rw [hobj, if_neg hyr]; exact g2, g3⟩
  · rw [heap_setObj _ _ _ _ hlt, if_neg (fun hh => hu r l hl hro hh.symm)]
theorem loopOf_eq {σ : Heap} {l : Nat} {a : ALoop} (h : loopOf σ l = some a) : σ.obj l = .loop a := by
  unfold loopOf at h
  split at h
  · cases h; assumption
  · cases h
theorem loop_at (h : Rel ι σ w) {l : Nat} {a : ALoop} (hl : loopOf σ l = some a) : ∃ L r, ι l = some L ∧ L.ro = false ∧ w.heap[L.blk]? = some (.loop r) ∧ LoopRel ι a r := by
  have ho := loopOf_eq hl
  obtain ⟨L, hL, hob⟩ := h.at_ l (by rw [ho]; rfl)
  rw [ho] at hob
  obtain ⟨h1, r, h2, h3⟩ := hob
  exact ⟨L, r, hL, h1, h2, h3⟩
theorem run_getLoop {B : Nat} {r : Loop} (h : w.heap[B]? = some (.loop r)) : (Instr.getLoop B).run P w = .ok r w := by
  simp [Instr.getLoop, run_getObj h (fun _ _ _ hh => by cases hh)]
theorem jump_code {j : Option Code} {e : AExit} (h : jumpOf j = some e) : j = codeOf e := by
  unfold jumpOf at h
  split at h <;> (try (cases h; done)) <;> cases h <;> rfl
/-- regions that draw their order are carried out as the ideal machine does: proved in a part of its own -/
def DrawOK (P : Program) (R : Callee) : Prop := ∀ (F : Fence), Wide F → ∀ (n : Nat) (ops : Array Oper) (Q : Exit → Act → World → Prop) (a a1 : Fr) (σ σ1 : Heap) (ι : Inj) (w : World) (A : Act),
  allA ops (operOK a.n) = true → regDraw P R ops a σ = some (a1, σ1) → Rel ι σ w → FrRel ι a A.tmps →
  (∀ ι' A' w', Kept ι w ι' w' → Rel ι' σ1 w' → FrRel ι' a1 A'.tmps → A'.defers = A.defers → Q .normal A' w') →
  ∀ id, (Code.region id ops true).wpIn F n P Q A w
theorem regSeq_n {P : Program} {R : Callee} {ops : Array Oper} : ∀ (l : List Oper) (a a1 : Fr) (σ σ1 : Heap), regSeq P R ops l a σ = some (a1, σ1) → a1.n = a.n
  | [], a, a1, σ, σ1, h => by simp only [regSeq, Option.some.injEq, Prod.mk.injEq] at h; rw [h.1]
  | o :: l, a, a1, σ, σ1, h => by
    simp only [regSeq] at h
    cases hw : wantedA ops a o with
    | true =>
      rw [hw] at h
      simp only [cond_true] at h
      split at h <;> try (cases h; done)
      rw [regSeq_n l _ _ _ _ h]; simp
    | false =>
      rw [hw] at h
      simp only [cond_false] at h
      rw [regSeq_n l _ _ _ _ h]; simp
theorem alloc_size (w : World) (o : Obj) : (w.alloc o).heap.size = w.heap.size + 1 := by show (w.heap.push o).size = _; simp
theorem alloc_get (w : World) (o : Obj) (C : Nat) : (w.alloc o).heap[C]? = if C = w.heap.size then some o else w.heap[C]? := by show (w.heap.push o)[C]? = _; rw [Array.getElem?_push]
theorem bif_some {α : Type} {b : Bool} {x : Option α} {y : α} (h : (bif b then x else none) = some y) : b = true ∧ x = some y := by
  cases b with
  | true => exact ⟨rfl, h⟩
  | false => cases h
theorem preD_n {P : Program} {ops : Array Oper} {ms : List Nat} {base : Nat} {hs : List Heap} : ∀ (l : List Nat) (a a1 : Fr) (obs : List (Nat × AObj)), preD P ops ms base hs l a = some (a1, obs) → a1.n = a.n
  | [], a, a1, obs, h => by simp only [preD, Option.some.injEq, Prod.mk.injEq] at h; rw [h.1]
  | i :: l, a, a1, obs, h => by
    simp only [preD] at h
    split at h <;> try (cases h; done)
    rename_i o ho
    cases hw : wantedA ops a o with
    | true =>
      rw [hw] at h
      simp only [cond_true] at h
      split at h
      · split at h <;> try (cases h; done)
        rw [preD_n l _ _ _ h]; simp
      · split at h <;> try (cases h; done)
        split at h <;> try (cases h; done)
        rename_i τ more _ _ v _
        cases hb : allSame (fun τ => rA P a.ev τ o) v more with
        | true => rw [hb] at h; simp only [cond_true] at h; rw [preD_n l _ _ _ h]; simp
        | false => rw [hb] at h; simp at h
      · split at h <;> try (cases h; done)
        split at h <;> try (cases h; done)
        rename_i h1
        cases h
        rw [preD_n l _ _ _ h1]; simp
      · cases h
    | false =>
      rw [hw] at h
      simp only [cond_false] at h
      rw [preD_n l _ _ _ h]; simp
theorem stagesD_n {P : Program} {R : Callee} {ops : Array Oper} {ms : List Nat} {base : Nat} : ∀ (st : List (List Nat × Nat)) (tail : List Nat) (a a1 : Fr) (σ σ1 : Heap) (hs : List Heap),
    stagesD P R ops ms base st tail a σ hs = some (a1, σ1) → a1.n = a.n
  | [], tail, a, a1, σ, σ1, hs, h => by
    simp only [stagesD] at h
    split at h <;> try (cases h; done)
    rename_i h1
    cases h
    exact preD_n _ _ _ _ h1
  | (need, s) :: rest, tail, a, a1, σ, σ1, hs, h => by
    simp only [stagesD] at h
    split at h <;> try (cases h; done)
    rename_i a' obs h1
    split at h <;> try (cases h; done)
    rename_i o ho
    rw [← preD_n _ _ _ _ h1]
    cases hw : wantedA ops a' o with
    | true =>
      rw [hw] at h
      simp only [cond_true] at h
      split at h <;> try (cases h; done)
      rw [stagesD_n rest _ _ _ _ _ _ h]; simp
    | false =>
      rw [hw] at h
      simp only [cond_false] at h
      rw [stagesD_n rest _ _ _ _ _ _ h]; simp
theorem regDraw_n {P : Program} {R : Callee} {ops : Array Oper} {a a1 : Fr} {σ σ1 : Heap} (h : regDraw P R ops a σ = some (a1, σ1)) : a1.n = a.n := by
  simp only [regDraw] at h
  generalize (drawOK P ops (masks ops.toList []) && okStages P ops (masks ops.toList []) (planOf P ops (masks ops.toList [])).stages (planOf P ops (masks ops.toList [])).tail 0) = b at h
  cases b with
  | true => exact stagesD_n _ _ _ _ _ _ _ h
  | false => cases h
end
end
end Go.Idl

/- The ideal machine, part Q: statements, proved. -/
namespace Go.Idl
open Go
noncomputable section

section
variable {P : Program} {ι : Inj} {σ : Heap} {w : World}
theorem run_beginRound {B : Nat} {r : Loop} (h : w.heap[B]? = some (.loop r)) (hs : r.state = .ready) : (Instr.beginRound B).run P w = .ok () (World.setObj w B (.loop { r with state := .busy })) := by
  have hset : ∀ o', (Go.setObj B o').run P w = .ok () (World.setObj w B o') := fun o' => run_setObj h (fun _ _ _ hh => by cases hh)
  simp [Instr.beginRound, Sem.run_bind, run_getLoop h, hs, hset]
theorem run_endRound {B : Nat} {r : Loop} {j : Option Code} (h : w.heap[B]? = some (.loop r)) :
    (Instr.endRound B j).run P w = .ok (.bool j.isNone) (World.setObj w B (.loop { r with state := if j.isNone then .ready else .done, pending := j })) := by
  have hset : ∀ o', (Go.setObj B o').run P w = .ok () (World.setObj w B o') := fun o' => run_setObj h (fun _ _ _ hh => by cases hh)
  simp [Instr.endRound, Sem.run_bind, run_getLoop h, hset]
theorem run_endLoop {B : Nat} {r : Loop} {j : Option Code} (h : w.heap[B]? = some (.loop r)) (hs : r.state ≠ .busy) (hj : r.pending = j) :
    (Instr.endLoop B).run P w = .ok j (World.setObj w B (.loop { r with state := .exhausted })) := by
  have hset : ∀ o', (Go.setObj B o').run P w = .ok () (World.setObj w B o') := fun o' => run_setObj h (fun _ _ _ hh => by cases hh)
  simp [Instr.endLoop, Sem.run_bind, run_getLoop h, hset, hs, hj]
theorem run_enterLoop {fn : FuncId} {tmps : Array Value} {ps : Array Tmp} {as b : Code} : (Instr.enterLoop fn tmps ps as b none).run P w =
    .ok (w.heap.size + 1, [{ target := .collected w.heap.size, args := #[] }])
      ((w.alloc (.deferred (some []))).alloc (.loop { state := .ready, pending := none, fn, tmps, params := ps, assign := as, body := b, defers := w.heap.size })) := by
  simp [Instr.enterLoop, Sem.run_bind]
theorem run_takeDeferred {r : Nat} (h : w.heap[r]? = some (.deferred (some []))) : (Instr.takeDeferred r).run P w = .ok [] (World.setObj w r (.deferred none)) := by
  have hset : ∀ o', (Go.setObj r o').run P w = .ok () (World.setObj w r o') := fun o' => run_setObj h (fun _ _ _ hh => by cases hh)
  simp [Instr.takeDeferred, Sem.run_bind, run_getObj h (fun _ _ _ hh => by cases hh), hset]
theorem PostC.goto {N0 m : Nat} {e : AExit} {st : St} {σ' : Heap} {l : Nat} {A : Act} {w' : World} : ¬ PostC N0 ι w m e st σ' (.goto l) A w' := by
  rintro ⟨ι', h, _⟩
  cases e <;> cases h
theorem ARel.mk3 {a b c a' b' c' : Array Value} (h1 : ARel ι a a') (h2 : ARel ι b b') (h3 : ARel ι c c') : ARel ι (a ++ b ++ c) (a' ++ b' ++ c') := arr_app (arr_app h1 h2) h3
theorem ARel.single {v v' : Value} (h : VRel ι v v') : ARel ι #[v] #[v'] := by
  refine ⟨rfl, fun i u u' h1 h2 => ?_⟩
  cases i with
  | zero => simp at h1 h2; subst h1; subst h2; exact h
  | succ i => simp at h1
theorem codeD_sound {R : Callee} (hR : CalleeOK P R) (hD : DrawOK P R) {L : Nat} {inR : Bool} {F : Fence} (hin : inR = false → F = Fence.wide) (hF : Wide F) {n N0 : Nat} :
    ∀ (c : Code) (st : St) (σ : Heap) (e : AExit) (st' : St) (σ' : Heap) (ι : Inj) (w : World) (A : Act), codeOK st.fr.n c = true → codeD P L R inR c st σ = some (e, st', σ') → Rel ι σ w → FrRel ι st.fr A.tmps →
      DfRel N0 ι w st.df A.defers → N0 ≤ w.heap.size → c.wpIn F n P (PostC N0 ι w st.fr.n e st' σ') A w := by
  intro c
  induction c with
  | skip =>
    intro st σ e st' σ' ι w A _ h hr hf hd hN
    simp only [codeD, Option.some.injEq, Prod.mk.injEq] at h
    obtain ⟨rfl, rfl, rfl⟩ := h
    exact wpIn_skip ⟨ι, rfl, .refl _ _, hr, hf, hd, rfl⟩
  | label l =>
    intro st σ e st' σ' ι w A _ h hr hf hd hN
    simp only [codeD, Option.some.injEq, Prod.mk.injEq] at h
    obtain ⟨rfl, rfl, rfl⟩ := h
    exact wpIn_label ⟨ι, rfl, .refl _ _, hr, hf, hd, rfl⟩
  | exit id =>
    intro st σ e st' σ' ι w A _ h hr hf hd hN
    simp only [codeD, Option.some.injEq, Prod.mk.injEq] at h
    obtain ⟨rfl, rfl, rfl⟩ := h
    exact wpIn_exit ⟨ι, rfl, .refl _ _, hr, hf, hd, rfl⟩
  | ret =>
    intro st σ e st' σ' ι w A _ h hr hf hd hN
    simp only [codeD, Option.some.injEq, Prod.mk.injEq] at h
    obtain ⟨rfl, rfl, rfl⟩ := h
    exact wpIn_ret ⟨ι, rfl, .refl _ _, hr, hf, hd, rfl⟩
  | goto l => intro st σ e st' σ' ι w A _ h; simp [codeD] at h
  | refuse l => intro st σ e st' σ' ι w A _ h; simp [codeD] at h
  | seq x y ihx ihy =>
    intro st σ e st' σ' ι w A hok h hr hf hd hN
    simp only [codeOK, Bool.and_eq_true] at hok
    simp only [codeD] at h
    refine wpIn_seq ?_
    split at h
    · rename_i st1 σ1 h1
      refine wpIn_mono (ihx st σ _ _ _ ι w A hok.1 h1 hr hf hd hN) fun e2 a2 w2 hp => ?_
      obtain ⟨ι2, rfl, k, r2, f2, d2, n2⟩ := hp
      refine wpIn_mono (ihy st1 σ1 _ _ _ ι2 w2 a2 (by rw [n2]; exact hok.2) h r2 f2 d2 (Nat.le_trans hN k.size)) fun e3 a3 w3 hp3 => ?_
      rw [n2] at hp3
      exact hp3.from k
    · rename_i hne
      refine wpIn_mono (ihx st σ e st' σ' ι w A hok.1 h hr hf hd hN) fun e2 a2 w2 hp => ?_
      cases e with
      | normal => exact absurd h (hne st' σ')
      | exit id => obtain ⟨ι2, rfl, k⟩ := hp; exact ⟨ι2, rfl, k⟩
      | ret => obtain ⟨ι2, rfl, k⟩ := hp; exact ⟨ι2, rfl, k⟩
  | cond c x y ihx ihy =>
    intro st σ e st' σ' ι w A hok h hr hf hd hN
    simp only [codeOK, Bool.and_eq_true] at hok
    simp only [codeD] at h
    split at h <;> try (cases h; done)
    rename_i b hb
    have hev := hf.ev (A := A) hok.1.1
    rw [hb] at hev
    have hev' : A.eval c = .bool b := by
      cases hx : A.eval c <;> rw [hx] at hev <;> cases hev
      rfl
    refine wpIn_cond hev' ?_
    cases b with
    | true => exact ihx st σ e st' σ' ι w A hok.1.2 h hr hf hd hN
    | false => exact ihy st σ e st' σ' ι w A hok.2 h hr hf hd hN
  | block id x ih =>
    intro st σ e st' σ' ι w A hok h hr hf hd hN
    simp only [codeOK] at hok
    simp only [codeD] at h
    refine wpIn_block ?_
    split at h
    · rename_i i st1 σ1 h1
      refine wpIn_mono (ih st σ _ _ _ ι w A hok h1 hr hf hd hN) fun e2 a2 w2 hp => ?_
      obtain ⟨ι2, rfl, k⟩ := hp
      cases hi : Nat.beq i id with
      | true =>
        rw [hi] at h
        simp only [cond_true, Option.some.injEq, Prod.mk.injEq] at h
        obtain ⟨rfl, rfl, rfl⟩ := h
        have : i = id := by simpa using hi
        simp only [toExit, Exit.inBlock, this, if_true]
        exact ⟨ι2, rfl, k⟩
      | false =>
        rw [hi] at h
        simp only [cond_false, Option.some.injEq, Prod.mk.injEq] at h
        obtain ⟨rfl, rfl, rfl⟩ := h
        have : i ≠ id := by intro hh; rw [hh] at hi; simp at hi
        simp only [toExit, Exit.inBlock, this, if_false]
        exact ⟨ι2, rfl, k⟩
    · rename_i hne
      refine wpIn_mono (ih st σ _ _ _ ι w A hok h hr hf hd hN) fun e2 a2 w2 hp => ?_
      obtain ⟨ι2, rfl, k⟩ := hp
      cases e with
      | normal => exact ⟨ι2, rfl, k⟩
      | exit id => exact absurd h (hne _ _ _)
      | ret => exact ⟨ι2, rfl, k⟩
  | loop x ih =>
    intro st σ e st' σ' ι w A hok h hr hf hd hN
    simp only [codeOK] at hok
    simp only [codeD] at h
    refine wpIn_loop_fuel (fun j A1 w1 => ∃ st1 σ1 ι1, loopD (fun st σ => codeD P L R inR x st σ) j st1 σ1 = some (e, st', σ') ∧ Kept ι w ι1 w1 ∧ Rel ι1 σ1 w1 ∧ FrRel ι1 st1.fr A1.tmps ∧ DfRel N0 ι1 w1 st1.df A1.defers ∧ st1.fr.n = st.fr.n)
      ?_ ?_ L A w ⟨st, σ, ι, h, .refl _ _, hr, hf, hd, rfl⟩
    · rintro a w1 ⟨st1, σ1, ι1, h1, _⟩
      simp [loopD] at h1
    · rintro j A1 w1 ⟨st1, σ1, ι1, h1, k1, r1, f1, d1, n1⟩
      simp only [loopD] at h1
      split at h1
      · rename_i st2 σ2 h2
        refine wpIn_mono (ih st1 σ1 _ _ _ ι1 w1 A1 (by rw [n1]; exact hok) h2 r1 f1 d1 (Nat.le_trans hN k1.size)) fun e2 a2 w2 hp => ?_
        obtain ⟨ι2, rfl, k, r2, f2, d2, n2⟩ := hp
        exact ⟨st2, σ2, ι2, h1, k1.trans k, r2, f2, d2, n2.trans n1⟩
      · rename_i hne
        refine wpIn_mono (ih st1 σ1 _ _ _ ι1 w1 A1 (by rw [n1]; exact hok) h1 r1 f1 d1 (Nat.le_trans hN k1.size)) fun e2 a2 w2 hp => ?_
        rw [n1] at hp
        have hp2 := hp.from k1
        obtain ⟨ι2, rfl, k⟩ := hp
        cases e with
        | normal => exact absurd h1 (hne st' σ')
        | exit id => exact hp2
        | ret => exact hp2
  | scope x ih =>
    intro st σ e st' σ' ι w A hok h hr hf hd hN
    simp only [codeOK] at hok
    simp only [codeD] at h
    exact wpIn_scope (fun l a w => PostC.goto) (ih st σ e st' σ' ι w A hok h hr hf hd hN)
  | region id ops draw =>
    intro st σ e st' σ' ι w A hok h hr hf hd hN
    simp only [codeOK] at hok
    simp only [codeD] at h
    split at h <;> try (cases h; done)
    rename_i a1 σ1 h1
    simp only [Option.some.injEq, Prod.mk.injEq] at h
    obtain ⟨rfl, rfl, rfl⟩ := h
    cases draw with
    | true =>
      simp only [cond_true] at h1
      refine hD F hF n ops _ st.fr a1 σ σ1 ι w A hok h1 hr hf (fun ι2 A2 w2 k2 r2 f2 hde => ?_) id
      exact ⟨ι2, rfl, k2, r2, f2, by rw [hde]; exact hd.kept k2, regDraw_n h1⟩
    | false =>
      simp only [cond_false] at h1
      refine wpIn_region ?_
      rw [List.range_eq_range', ← Array.length_toList]
      refine regSeq_sound hR hF ops.toList 0 st.fr a1 σ σ1 ι w A (fun i => by simp) (fun o ho => allA_mem hok o (by simpa using ho)) h1 hr hf fun ι2 A2 w2 k2 r2 f2 hde => ?_
      exact ⟨ι2, rfl, k2, r2, f2, by rw [hde]; exact hd.kept k2, regSeq_n _ _ _ _ _ h1⟩
  | rangeFunc f ps as b iha ihb =>
    intro st σ e st' σ' ι w A hok h hr hf hd hN
    simp only [codeOK, Bool.and_eq_true] at hok
    simp only [codeD] at h
    cases inR with
    | true => simp at h
    | false =>
      have := hin rfl
      subst this
      simp only [cond_false] at h
      split at h <;> try (cases h; done)
      rename_i g first cap hv
      split at h <;> try (cases h; done)
      rename_i v0 σ1 hcall
      split at h <;> try (cases h; done)
      rename_i a hl
      split at h <;> try (cases h; done)
      rename_i e1 hj hbusy
      cases hbd : hasBody P g with
      | false => rw [hbd] at h; simp at h
      | true =>
        rw [hbd] at h
        simp only [cond_true, Option.some.injEq, Prod.mk.injEq] at h
        obtain ⟨rfl, rfl, rfl⟩ := h
        have hev := hf.ev (A := A) hok.1.1.1
        rw [hv] at hev
        cases hv' : A.eval f <;> rw [hv'] at hev <;> cases hev
        rename_i fn' first' cap' hfn q1 q2 q3 q4
        cases hfn
        refine wpIn_rangeFunc fun fn _ => ?_
        obtain ⟨p1, p2⟩ := hr.push (.deferred (some []))
        have hle := Inj.le_add (ι := ι) (b := σ.next) ⟨w.heap.size + 1, 0, 0, false⟩ hr.next_none
        obtain ⟨p3, p4⟩ := p1.new (z := 0) (o := .loop { n := st.fr.n, tm := st.fr.tm, params := ps, assign := as, body := b, state := .ready, pending := none })
          (o' := .loop { state := .ready, pending := none, fn, tmps := A.tmps, params := ps, assign := as, body := b, defers := w.heap.size })
          ⟨rfl, { state := .ready, pending := none, fn, tmps := A.tmps, params := ps, assign := as, body := b, defers := w.heap.size }, by rw [alloc_get, alloc_size, if_pos rfl],
            ⟨hf.n, (hf.tm.mono (by rw [alloc_size]; exact hle)), rfl, rfl, rfl, rfl, rfl⟩⟩
        have hlx : (ι.add σ.next ⟨w.heap.size + 1, 0, 0, false⟩) σ.next = some ⟨w.heap.size + 1, 0, 0, false⟩ := Inj.add_same _ _ _
        have hwa : (w.alloc (.deferred (some []))).heap.size = w.heap.size + 1 := alloc_size _ _
        rw [hwa] at p3 p4
        generalize hι1 : ι.add σ.next ⟨w.heap.size + 1, 0, 0, false⟩ = ι1 at p3 p4 hlx hle
        generalize hw2 : (w.alloc (.deferred (some []))).alloc (.loop { state := .ready, pending := none, fn, tmps := A.tmps, params := ps, assign := as, body := b, defers := w.heap.size }) = w2 at p3 p4
        have k0 : Kept ι w ι1 w2 := p2.trans p4
        have hargs : ARel ι1 (first ++ #[.func (.yield σ.next) #[] #[]] ++ cap) (first' ++ #[.func (.yield (w.heap.size + 1)) #[] #[]] ++ cap') :=
          ARel.mk3 (ARel.mono hle ⟨q1, q2⟩) (ARel.single (.func (.yield hlx) rfl (fun i v v' h => by simp at h) rfl (fun i v v' h => by simp at h))) (ARel.mono hle ⟨q3, q4⟩)
        have hg := hR _ _ _ _ hcall ι1 w2 p3 _ hargs
        have hnb : ¬ noBody P g := by
          intro hn
          unfold hasBody at hbd
          split at hbd
          · rename_i fn2 hfn2
            rw [hn fn2 hfn2] at hbd; cases hbd
          · cases hbd
        rcases hg with ⟨hh, _⟩ | ⟨f', args', w3, e1', c1⟩ | ⟨hh, _⟩
        · exact absurd hh hnb
        · refine ⟨w.heap.size + 1, [{ target := .collected w.heap.size, args := #[] }], w2, { target := .fn (.func g) cap', args := first' ++ #[.func (.yield (w.heap.size + 1)) #[] #[]] }, w2, f', args', w3, ?_, ?_, fun _ _ => trivial, ?_, (fun hh => by cases hh), ?_⟩
          · rw [← hw2]; exact run_enterLoop
          · simp [resolve, hv', Deferred.ofValue, show Act.eval A (.const (.func (.yield (w.heap.size + 1)) #[] #[])) = .func (.yield (w.heap.size + 1)) #[] #[] from rfl]
          · simpa [invoke] using e1'
          · refine (c1 (n - 1)).mono ?_
            rintro e2 w4 ⟨v4, rfl, ι4, k4, r4, _⟩
            have hl' := loopOf_eq hl
            obtain ⟨Lc, r, hL, hro, hob, hrel⟩ := loop_at r4 hl
            have hLc := k4.le _ _ hlx
            rw [hL] at hLc
            cases hLc
            refine ⟨codeOf e1, _, run_endLoop hob (by rw [hrel.state]; exact hbusy) (hrel.pending.trans (jump_code hj)), ?_⟩
            obtain ⟨s1, s2⟩ := r4.setLoop hl' hL (a2 := { a with state := .exhausted }) (a2' := { r with state := .exhausted }) ⟨hrel.n, hrel.tm, hrel.params, hrel.assign, hrel.body, rfl, hrel.pending⟩
            have kk := k0.trans (k4.trans s2)
            have hfr : FrRel ι4 st.fr A.tmps := hf.mono kk.le
            have hdd : DfRel N0 ι4 (World.setObj w4 (w.heap.size + 1) (.loop { r with state := .exhausted })) (st.df + 1) ([{ target := .collected w.heap.size, args := #[] }] ++ A.defers) := by
              obtain ⟨rs, g1, g2, g3, g4⟩ := hd
              have hun : Unm ι1 w.heap.size := by
                intro b l hb hro' hh
                rw [← hι1] at hb
                by_cases hbn : b = σ.next
                · subst hbn; rw [Inj.add_same] at hb; cases hb; simp at hh
                · rw [Inj.add_ne _ _ hbn] at hb
                  have := (hr.dom b l hb).2
                  omega
              have hsz2 : w2.heap.size = w.heap.size + 2 := by rw [← hw2, alloc_size, alloc_size]
              have hnew := (k4.trans s2).old w.heap.size (by omega) hun
              refine ⟨w.heap.size :: rs, by simp [g1], by simp [g2], List.nodup_cons.2 ⟨fun hm => by have := (g4 _ hm).2.1; omega, g3⟩, fun x hx => ?_⟩
              have hsz : w2.heap.size ≤ (World.setObj w4 (w.heap.size + 1) (.loop { r with state := .exhausted })).heap.size := (k4.trans s2).size
              rcases List.mem_cons.1 hx with rfl | hx
              · refine ⟨hN, by omega, hnew.1.trans ?_, hnew.2⟩
                rw [← hw2, alloc_get, if_neg (by rw [alloc_size]; omega), alloc_get, if_pos rfl]
              · obtain ⟨u1, u2, u3, u4⟩ := g4 x hx
                obtain ⟨o1, o2⟩ := kk.old x u2 u4
                exact ⟨u1, by omega, o1.trans u3, o2⟩
            have fin : PostC N0 ι w st.fr.n e1 { fr := st.fr, df := st.df + 1 } (σ1.put σ.next (.loop { a with state := .exhausted })) (toExit e1) { A with defers := [{ target := .collected w.heap.size, args := #[] }] ++ A.defers }
                (World.setObj w4 (w.heap.size + 1) (.loop { r with state := .exhausted })) := ⟨ι4, rfl, kk, s1, hfr, hdd, rfl⟩
            cases e1 with
            | normal => exact fin
            | exit id => exact wpIn_exit fin
            | ret => exact wpIn_ret fin
        · exact absurd hh hnb
end
end
end Go.Idl
