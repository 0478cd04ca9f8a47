/- An ideal machine of our own, and that it is right: part 1 of 5. -/
import Derived.IntWalk
import Derived.Laws.Sem
import Derived.Laws.World
import Derived.OrdersIn
import Derived.RangeFuncIn
import Derived.RangeFuncLeaves
set_option linter.unusedVariables false
set_option linter.unusedSimpArgs false
/- The ideal machine, part A: tries, values that are related, heaps, what a heap and a world have to do with each other. -/
namespace Go.Idl
open Go
noncomputable section

/-! ## Tries -/
inductive T (α : Type) where
  | e : T α
  | n (l : T α) (v : Option α) (r : T α) : T α

namespace T
variable {α : Type}
/-- written with the bare recursors: so the kernel is quick -/
noncomputable def get (t : T α) (i : Nat) : Option α :=
  T.rec (motive := fun _ => Nat → Option α) (fun _ => none)
    (fun _ v _ il ir i => bif Nat.beq i 0 then v else bif Nat.beq (Nat.mod i 2) 1 then il (Nat.div i 2) else ir (Nat.div (Nat.sub i 1) 2)) t i
def lf : T α → T α
  | .e => .e
  | .n l _ _ => l
def vl : T α → Option α
  | .e => none
  | .n _ v _ => v
def rt : T α → T α
  | .e => .e
  | .n _ _ r => r
noncomputable def mkl (c : T α) (v : Option α) (r : T α) : T α := T.rec (motive := fun _ => T α) (.n .e v r) (fun x y z _ _ => .n (.n x y z) v r) c
noncomputable def mkr (l : T α) (v : Option α) (c : T α) : T α := T.rec (motive := fun _ => T α) (.n l v .e) (fun x y z _ _ => .n l v (.n x y z)) c
theorem mkl_eq (c : T α) (v : Option α) (r : T α) : mkl c v r = .n c v r := by cases c <;> rfl
theorem mkr_eq (l : T α) (v : Option α) (c : T α) : mkr l v c = .n l v c := by cases c <;> rfl
/-- a path of its own -/
noncomputable def newF (a : α) (f : Nat) : Nat → T α :=
  Nat.rec (motive := fun _ => Nat → T α) (fun _ => .e)
    (fun _ ih i => bif Nat.beq i 0 then .n .e (some a) .e else bif Nat.beq (Nat.mod i 2) 1 then mkl (ih (Nat.div i 2)) none .e else mkr .e none (ih (Nat.div (Nat.sub i 1) 2))) f
noncomputable def set (t : T α) (i : Nat) (a : α) : T α :=
  T.rec (motive := fun _ => Nat → T α) (fun i => newF a (Nat.succ i) i)
    (fun l v r il ir i => bif Nat.beq i 0 then .n l (some a) r else bif Nat.beq (Nat.mod i 2) 1 then mkl (il (Nat.div i 2)) v r else mkr l v (ir (Nat.div (Nat.sub i 1) 2))) t i
/-- n copies -/
def repF (v : α) : Nat → Nat → T α
  | 0, _ => .e
  | _ + 1, 0 => .e
  | f + 1, k + 1 => .n (repF v f ((k + 1) / 2)) (some v) (repF v f (k / 2))
def rep (n : Nat) (v : α) : T α := repF v (n + 1) n
def ofL (t : T α) (i : Nat) : List α → T α
  | [] => t
  | a :: l => ofL (t.set i a) (i + 1) l

@[simp] theorem get_e (i : Nat) : (T.e : T α).get i = none := rfl
theorem nbeq {a b : Nat} : Nat.beq a b = decide (a = b) := by
  rw [Bool.eq_iff_iff]; simp
theorem get_zero (t : T α) : t.get 0 = t.vl := by cases t <;> rfl
theorem get_n (l : T α) (v : Option α) (r : T α) (i : Nat) : (T.n l v r).get i = if i = 0 then v else if i % 2 = 1 then l.get (i / 2) else r.get ((i - 1) / 2) := by
  show (bif Nat.beq i 0 then v else bif Nat.beq (i % 2) 1 then l.get (i / 2) else r.get ((i - 1) / 2)) = _
  by_cases h0 : i = 0
  · subst h0; rfl
  · rw [if_neg h0, show Nat.beq i 0 = false by rw [nbeq]; simpa using h0]
    by_cases h1 : i % 2 = 1
    · rw [if_pos h1, show Nat.beq (i % 2) 1 = true by rw [nbeq]; simpa using h1]; rfl
    · rw [if_neg h1, show Nat.beq (i % 2) 1 = false by rw [nbeq]; simpa using h1]; rfl
theorem get_succ (t : T α) (k : Nat) : t.get (k + 1) = bif Nat.beq (k % 2) 0 then t.lf.get (k / 2) else t.rt.get (k / 2) := by
  cases t with
  | e => simp [lf, rt]
  | n l v r =>
    rw [get_n, if_neg (by omega)]
    cases hb : Nat.beq (k % 2) 0 with
    | true =>
      have hb' : k % 2 = 0 := by simpa using hb
      rw [if_pos (by omega)]
      simp only [cond_true, lf]
      rw [show (k + 1) / 2 = k / 2 by omega]
    | false =>
      have hb' : k % 2 ≠ 0 := by rw [nbeq] at hb; simpa using hb
      rw [if_neg (by omega)]
      simp only [cond_false, rt]
      rw [show (k + 1 - 1) / 2 = k / 2 by omega]
theorem newF_succ (a : α) (f i : Nat) : newF a (f + 1) i = if i = 0 then .n .e (some a) .e else if i % 2 = 1 then .n (newF a f (i / 2)) none .e else .n .e none (newF a f ((i - 1) / 2)) := by
  show (bif Nat.beq i 0 then .n .e (some a) .e else bif Nat.beq (i % 2) 1 then mkl (newF a f (i / 2)) none .e else mkr .e none (newF a f ((i - 1) / 2))) = _
  by_cases h0 : i = 0
  · subst h0; rfl
  · rw [if_neg h0, show Nat.beq i 0 = false by rw [nbeq]; simpa using h0]
    by_cases h1 : i % 2 = 1
    · rw [if_pos h1, show Nat.beq (i % 2) 1 = true by rw [nbeq]; simpa using h1]; exact mkl_eq _ _ _
    · rw [if_neg h1, show Nat.beq (i % 2) 1 = false by rw [nbeq]; simpa using h1]; exact mkr_eq _ _ _
theorem get_newF (a : α) : ∀ (f i j : Nat), i < f → (newF a f i).get j = if j = i then some a else none := by
  intro f
  induction f with
  | zero => intro i j h; omega
  | succ f ih =>
    intro i j h
    rw [newF_succ]
    by_cases h0 : i = 0
    · rw [if_pos h0, get_n, h0]; simp
    · rw [if_neg h0]
      by_cases h1 : i % 2 = 1
      · rw [if_pos h1, get_n]
        by_cases j0 : j = 0
        · rw [if_pos j0, if_neg (by omega)]
        · rw [if_neg j0]
          by_cases j1 : j % 2 = 1
          · rw [if_pos j1, ih _ _ (by omega)]
            by_cases hji : j = i
            · subst hji; simp
            · rw [if_neg (by omega), if_neg hji]
          · rw [if_neg j1, get_e, if_neg (by omega)]
      · rw [if_neg h1, get_n]
        by_cases j0 : j = 0
        · rw [if_pos j0, if_neg (by omega)]
        · rw [if_neg j0]
          by_cases j1 : j % 2 = 1
          · rw [if_pos j1, get_e, if_neg (by omega)]
          · rw [if_neg j1, ih _ _ (by omega)]
            by_cases hji : j = i
            · subst hji; simp
            · rw [if_neg (by omega), if_neg hji]
theorem set_n (l : T α) (v : Option α) (r : T α) (i : Nat) (a : α) : (T.n l v r).set i a = if i = 0 then .n l (some a) r else if i % 2 = 1 then .n (l.set (i / 2) a) v r else .n l v (r.set ((i - 1) / 2) a) := by
  show (bif Nat.beq i 0 then .n l (some a) r else bif Nat.beq (i % 2) 1 then mkl (l.set (i / 2) a) v r else mkr l v (r.set ((i - 1) / 2) a)) = _
  by_cases h0 : i = 0
  · subst h0; rfl
  · rw [if_neg h0, show Nat.beq i 0 = false by rw [nbeq]; simpa using h0]
    by_cases h1 : i % 2 = 1
    · rw [if_pos h1, show Nat.beq (i % 2) 1 = true by rw [nbeq]; simpa using h1]; exact mkl_eq _ _ _
    · rw [if_neg h1, show Nat.beq (i % 2) 1 = false by rw [nbeq]; simpa using h1]; exact mkr_eq _ _ _
theorem get_setF (a : α) : ∀ (t : T α) (i j : Nat), (t.set i a).get j = if j = i then some a else t.get j := by
  intro t
  induction t with
  | e => intro i j; exact get_newF a (i + 1) i j (by omega)
  | n l v r il ir =>
    intro i j
    rw [set_n]
    by_cases h0 : i = 0
    · rw [if_pos h0, get_n, get_n]
      by_cases j0 : j = 0
      · rw [if_pos j0, if_pos (by omega)]
      · rw [if_neg j0, if_neg j0, if_neg (show ¬ j = i by omega)]
    · rw [if_neg h0]
      by_cases h1 : i % 2 = 1
      · rw [if_pos h1, get_n, get_n]
        by_cases j0 : j = 0
        · rw [if_pos j0, if_pos j0, if_neg (by omega)]
        · rw [if_neg j0, if_neg j0]
          by_cases j1 : j % 2 = 1
          · rw [if_pos j1, if_pos j1, il]
            by_cases hji : j = i
            · subst hji; simp
            · rw [if_neg (by omega), if_neg hji]
          · rw [if_neg j1, if_neg j1, if_neg (show ¬ j = i by omega)]
      · rw [if_neg h1, get_n, get_n]
        by_cases j0 : j = 0
        · rw [if_pos j0, if_pos j0, if_neg (by omega)]
        · rw [if_neg j0, if_neg j0]
          by_cases j1 : j % 2 = 1
          · rw [if_pos j1, if_pos j1, if_neg (show ¬ j = i by omega)]
          · rw [if_neg j1, if_neg j1, ir]
            by_cases hji : j = i
            · subst hji; simp
            · rw [if_neg (by omega), if_neg hji]
theorem get_set (t : T α) (i j : Nat) (a : α) : (t.set i a).get j = if j = i then some a else t.get j :=
  get_setF a t i j
@[simp] theorem get_set_same (t : T α) (i : Nat) (a : α) : (t.set i a).get i = some a := by simp [get_set]
theorem get_set_ne (t : T α) {i j : Nat} (a : α) (h : j ≠ i) : (t.set i a).get j = t.get j := by simp [get_set, h]
theorem get_repF (v : α) : ∀ (f n i : Nat), n < f → (repF v f n).get i = if i < n then some v else none := by
  intro f
  induction f with
  | zero => intro n i h; omega
  | succ f ih =>
    intro n i h
    cases n with
    | zero => simp [repF]
    | succ k =>
      cases i with
      | zero => simp [repF, get]
      | succ i =>
        rw [get_succ]
        simp only [repF, lf, rt]
        rw [ih _ _ (by omega), ih _ _ (by omega)]
        cases hb : Nat.beq (i % 2) 0 with
        | true =>
          have hb' : i % 2 = 0 := by simpa using hb
          simp only [cond_true]
          by_cases h1 : i / 2 < (k + 1) / 2 <;> by_cases h2 : i + 1 < k + 1 <;> simp [h1, h2] <;> omega
        | false =>
          have hb' : i % 2 ≠ 0 := by rw [nbeq] at hb; simpa using hb
          simp only [cond_false]
          by_cases h1 : i / 2 < k / 2 <;> by_cases h2 : i + 1 < k + 1 <;> simp [h1, h2] <;> omega
theorem get_rep (v : α) (n i : Nat) : (rep n v).get i = if i < n then some v else none := get_repF v _ n i (by omega)
theorem get_ofL : ∀ (l : List α) (t : T α) (i j : Nat), (ofL t i l).get j = if i ≤ j ∧ j < i + l.length then l[j - i]? else t.get j := by
  intro l
  induction l with
  | nil => intro t i j; simp only [ofL, List.length_nil]; rw [if_neg (by omega)]
  | cons a l ih =>
    intro t i j
    simp only [ofL, List.length_cons]
    rw [ih, get_set]
    by_cases h1 : j = i
    · subst h1
      rw [if_neg (by omega), if_pos rfl, if_pos (by omega)]; simp
    · by_cases h2 : i + 1 ≤ j ∧ j < i + 1 + l.length
      · rw [if_pos h2, if_pos (by omega)]
        have : j - i = (j - (i + 1)) + 1 := by omega
        rw [this, List.getElem?_cons_succ]
      · rw [if_neg h2, if_neg h1, if_neg (by omega)]
end T

/-! ## Values that are related -/
structure Loc where
  blk : Nat
  base : Nat
  csz : Nat
  ro : Bool
structure Inj where
  map : Nat → Option Loc
  /-- no smaller number will be given to a new object -/
  top : Nat
instance : CoeFun Inj (fun _ => Nat → Option Loc) := ⟨Inj.map⟩
def Inj.le (ι ι' : Inj) : Prop := ∀ b l, ι b = some l → ι' b = some l
theorem Inj.le.refl (ι : Inj) : ι.le ι := fun _ _ h => h
theorem Inj.le.trans {ι ι' ι'' : Inj} (h : ι.le ι') (h' : ι'.le ι'') : ι.le ι'' := fun b l hb => h' b l (h b l hb)
def Inj.add (ι : Inj) (b : Nat) (l : Loc) : Inj := { map := fun c => if c = b then some l else ι c, top := b + 1 }
@[simp] theorem Inj.top_add (ι : Inj) (b : Nat) (l : Loc) : (ι.add b l).top = b + 1 := rfl
theorem Inj.add_same (ι : Inj) (b : Nat) (l : Loc) : ι.add b l b = some l := by simp [Inj.add]
theorem Inj.add_ne (ι : Inj) {b c : Nat} (l : Loc) (h : c ≠ b) : ι.add b l c = ι c := by simp [Inj.add, h]
theorem Inj.le_add {ι : Inj} {b : Nat} (l : Loc) (h : ι b = none) : ι.le (ι.add b l) := by
  intro c m hc
  by_cases hcb : c = b
  · subst hcb; rw [h] at hc; cases hc
  · rw [Inj.add_ne _ _ hcb]; exact hc

inductive FnRel (ι : Inj) : Fn → Fn → Prop
  | func (f : FuncId) : FnRel ι (.func f) (.func f)
  | yield {b : Nat} {l : Loc} : ι b = some l → FnRel ι (.yield b) (.yield l.blk)

inductive VRel (ι : Inj) : Value → Value → Prop
  | bool (b : Bool) : VRel ι (.bool b) (.bool b)
  | int (k : IntKind) (n : Int) : VRel ι (.int k n) (.int k n)
  | string (s : ByteArray) : VRel ι (.string s) (.string s)
  | nilptr : VRel ι (.pointer none) (.pointer none)
  | ptr {b o : Nat} {l : Loc} : ι b = some l → VRel ι (.pointer (some ⟨b, o, none⟩)) (.pointer (some ⟨l.blk, l.base + o, none⟩))
  | nilslice (len cap : Nat) : VRel ι (.slice none len cap) (.slice none len cap)
  | slice {b o : Nat} {l : Loc} (len cap : Nat) : ι b = some l → VRel ι (.slice (some ⟨b, o, none⟩) len cap) (.slice (some ⟨l.blk, l.base + o, none⟩) len cap)
  | open_ {b o es : Nat} {l : Loc} (len cap cap' : Nat) : ι b = some l → cap ≤ cap' → l.base + o + cap' * es ≤ l.csz →
      VRel ι (.slice (some ⟨b, o, some es⟩) len cap) (.slice (some ⟨l.blk, l.base + o, none⟩) len cap')
  | zero {b o es : Nat} {l : Loc} (p : Addr) : ι b = some l → VRel ι (.slice (some ⟨b, o, some es⟩) 0 0) (.slice (some p) 0 0)
  | nilmap : VRel ι (.map none) (.map none)
  | map {r : Nat} {l : Loc} : ι r = some l → VRel ι (.map (some r)) (.map (some l.blk))
  | nilFunc : VRel ι .nilFunc .nilFunc
  | nilIface : VRel ι .nilIface .nilIface
  | iface (t : TypeId) {v v' : Value} : VRel ι v v' → VRel ι (.iface t v) (.iface t v')
  | func {fn fn' : Fn} {a a' b b' : Array Value} : FnRel ι fn fn' → a.size = a'.size →
      (∀ (i : Nat) (v v' : Value), a[i]? = some v → a'[i]? = some v' → VRel ι v v') → b.size = b'.size →
      (∀ (i : Nat) (v v' : Value), b[i]? = some v → b'[i]? = some v' → VRel ι v v') → VRel ι (.func fn a b) (.func fn' a' b')
  | agg {a a' : Array Value} : a.size = a'.size → (∀ (i : Nat) (v v' : Value), a[i]? = some v → a'[i]? = some v' → VRel ι v v') → VRel ι (.agg a) (.agg a')
  | tuple {a a' : Array Value} : a.size = a'.size → (∀ (i : Nat) (v v' : Value), a[i]? = some v → a'[i]? = some v' → VRel ι v v') → VRel ι (.tuple a) (.tuple a')

theorem FnRel.mono {ι ι' : Inj} (h : ι.le ι') {f g : Fn} (r : FnRel ι f g) : FnRel ι' f g := by
  cases r with
  | func f => exact .func f
  | yield hb => exact .yield (h _ _ hb)
theorem VRel.mono {ι ι' : Inj} (h : ι.le ι') {v v' : Value} (r : VRel ι v v') : VRel ι' v v' := by
  induction r with
  | bool b => exact .bool b
  | int k n => exact .int k n
  | string s => exact .string s
  | nilptr => exact .nilptr
  | ptr hb => exact .ptr (h _ _ hb)
  | nilslice len cap => exact .nilslice len cap
  | slice len cap hb => exact .slice len cap (h _ _ hb)
  | open_ len cap cap' hb hc hs => exact .open_ len cap cap' (h _ _ hb) hc hs
  | zero p hb => exact .zero p (h _ _ hb)
  | nilmap => exact .nilmap
  | map hb => exact .map (h _ _ hb)
  | nilFunc => exact .nilFunc
  | nilIface => exact .nilIface
  | iface t _ ih => exact .iface t ih
  | func hf h1 _ h3 _ ih1 ih2 => exact .func (hf.mono h) h1 ih1 h3 ih2
  | agg h1 _ ih => exact .agg h1 ih
  | tuple h1 _ ih => exact .tuple h1 ih

/-- Lists of values that are related, one by one. -/
def LRel (ι : Inj) (l l' : List Value) : Prop := l.length = l'.length ∧ ∀ (i : Nat) (v v' : Value), l[i]? = some v → l'[i]? = some v' → VRel ι v v'
def ARel (ι : Inj) (a a' : Array Value) : Prop := a.size = a'.size ∧ ∀ (i : Nat) (v v' : Value), a[i]? = some v → a'[i]? = some v' → VRel ι v v'
theorem ARel.mono {ι ι' : Inj} (h : ι.le ι') {a a' : Array Value} (r : ARel ι a a') : ARel ι' a a' := ⟨r.1, fun i v v' h1 h2 => (r.2 i v v' h1 h2).mono h⟩
theorem LRel.mono {ι ι' : Inj} (h : ι.le ι') {a a' : List Value} (r : LRel ι a a') : LRel ι' a a' := ⟨r.1, fun i v v' h1 h2 => (r.2 i v v' h1 h2).mono h⟩
theorem VRel.undef (ι : Inj) : VRel ι undef undef := .tuple rfl (fun i v v' h => by simp at h)

/-! ## Heaps -/
structure Row where
  size : Nat
  cells : T Value
  ro : Bool
  par : Option Nat
  kid : Option Nat
structure ALoop where
  n : Nat
  tm : T Value
  params : Array Tmp
  assign : Code
  body : Code
  state : LoopState
  pending : Option Code
inductive AObj where
  | row (r : Row)
  | map (es : List (Value × Value))
  | loop (l : ALoop)
  | dead
structure Heap where
  next : Nat
  objs : T AObj

def AObj.live : AObj → Bool
  | .dead => false
  | _ => true
def Heap.obj (σ : Heap) (b : Nat) : AObj := (σ.objs.get b).getD .dead
def Heap.put (σ : Heap) (b : Nat) (o : AObj) : Heap := { σ with objs := σ.objs.set b o }
def Heap.new (σ : Heap) (o : AObj) : Heap := { next := σ.next + 1, objs := σ.objs.set σ.next o }
@[simp] theorem Heap.obj_put_same (σ : Heap) (b : Nat) (o : AObj) : (σ.put b o).obj b = o := by simp [Heap.obj, Heap.put]
theorem Heap.obj_put (σ : Heap) (b c : Nat) (o : AObj) : (σ.put b o).obj c = if c = b then o else σ.obj c := by
  simp only [Heap.obj, Heap.put, T.get_set]; split <;> rfl
theorem Heap.obj_new (σ : Heap) (c : Nat) (o : AObj) : (σ.new o).obj c = if c = σ.next then o else σ.obj c := by
  simp only [Heap.obj, Heap.new, T.get_set]; split <;> rfl
@[simp] theorem Heap.next_put (σ : Heap) (b : Nat) (o : AObj) : (σ.put b o).next = σ.next := rfl
@[simp] theorem Heap.next_new (σ : Heap) (o : AObj) : (σ.new o).next = σ.next + 1 := rfl

/-! ## A heap and a world -/
/-- no cell of the row is frozen -/
def unfrozen (n : Nat) (fr : Nat × Nat) : Prop := fr.1 = fr.2 ∨ n ≤ fr.1
structure RowAt (ι : Inj) (r : Row) (l : Loc) (w : World) : Prop where
  out : ∃ c e fr, w.heap[l.blk]? = some (.cells c e fr) ∧ (r.ro = false → unfrozen c.size fr) ∧ c.size = l.csz ∧ l.base + r.size ≤ c.size ∧
    ∀ i, i < r.size → ∃ v v', r.cells.get i = some v ∧ c[l.base + i]? = some v' ∧ VRel ι v v'
def TRel (ι : Inj) (t : T Value) (a : Array Value) : Prop := ∀ i, VRel ι ((t.get i).getD undef) (a.getD i undef)
structure LoopRel (ι : Inj) (a : ALoop) (l : Loop) : Prop where
  n : l.tmps.size = a.n
  tm : TRel ι a.tm l.tmps
  params : l.params = a.params
  assign : l.assign = a.assign
  body : l.body = a.body
  state : l.state = a.state
  pending : l.pending = a.pending
def EsRel (ι : Inj) (es : List (Value × Value)) (es' : List MapEntry) : Prop :=
  es.length = es'.length ∧ ∀ (i : Nat) (x : Value × Value) (y : MapEntry), es[i]? = some x → es'[i]? = some y → VRel ι x.1 y.key ∧ VRel ι x.2 y.val
/-- what lies in a world for an object -/
def ObjAt (ι : Inj) (o : AObj) (l : Loc) (w : World) : Prop :=
  match o with
  | .row r => l.ro = r.ro ∧ RowAt ι r l w
  | .map es => l.ro = false ∧ ∃ es' clock, w.heap[l.blk]? = some (.map es' clock) ∧ EsRel ι es es'.toList
  | .loop a => l.ro = false ∧ ∃ r, w.heap[l.blk]? = some (.loop r) ∧ LoopRel ι a r
  | .dead => True
/-- a row and the one that was appended of it -/
def kin (σ : Heap) (b c : Nat) : Prop :=
  ∃ r s, σ.obj b = .row r ∧ σ.obj c = .row s ∧ ((r.kid = some c ∧ s.par = some b) ∨ (r.par = some c ∧ s.kid = some b))
structure Rel (ι : Inj) (σ : Heap) (w : World) : Prop where
  dom : ∀ b l, ι b = some l → b < σ.next ∧ l.blk < w.heap.size
  fresh : ∀ b, σ.next ≤ b → σ.obj b = .dead
  at_ : ∀ b, (σ.obj b).live = true → ∃ l, ι b = some l ∧ ObjAt ι (σ.obj b) l w
  sep : ∀ b c l m, b ≠ c → (σ.obj b).live = true → (σ.obj c).live = true → ι b = some l → ι c = some m → l.blk = m.blk →
    (l.ro = true ∧ m.ro = true) ∨ kin σ b c
  top : ι.top = σ.next
/-- B is none of the blocks that the heap may write -/
def Unm (ι : Inj) (B : Nat) : Prop := ∀ b l, ι b = some l → l.ro = false → l.blk ≠ B
/-- what a run leaves alone -/
structure Kept (ι : Inj) (w : World) (ι' : Inj) (w' : World) : Prop where
  le : ι.le ι'
  size : w.heap.size ≤ w'.heap.size
  old : ∀ B, B < w.heap.size → Unm ι B → w'.heap[B]? = w.heap[B]? ∧ Unm ι' B
  os : w'.os = w.os
  output : w'.output = w.output
  tape : w'.tape = w.tape
  more : ι.top ≤ ι'.top ∧ ∀ b l, ι' b = some l → ι b = some l ∨ (ι.top ≤ b ∧ l.ro = false)
theorem Inj.more (ι : Inj) : ι.top ≤ ι.top ∧ ∀ b l, ι b = some l → ι b = some l ∨ (ι.top ≤ b ∧ l.ro = false) := ⟨Nat.le_refl _, fun _ _ h => .inl h⟩
theorem Kept.refl (ι : Inj) (w : World) : Kept ι w ι w := ⟨.refl _, Nat.le_refl _, fun _ _ h => ⟨rfl, h⟩, rfl, rfl, rfl, ι.more⟩
theorem Kept.trans {ι ι' ι'' : Inj} {w w' w'' : World} (h : Kept ι w ι' w') (h' : Kept ι' w' ι'' w'') : Kept ι w ι'' w'' :=
  ⟨h.le.trans h'.le, Nat.le_trans h.size h'.size, fun B hB hu =>
    let ⟨e, u⟩ := h.old B hB hu
    let ⟨e', u'⟩ := h'.old B (Nat.lt_of_lt_of_le hB h.size) u
    ⟨e'.trans e, u'⟩, h'.os.trans h.os, h'.output.trans h.output, h'.tape.trans h.tape, Nat.le_trans h.more.1 h'.more.1, fun b l hb =>
    (h'.more.2 b l hb).elim (h.more.2 b l) fun x => .inr ⟨Nat.le_trans h.more.1 x.1, x.2⟩⟩
/-- a world of the same heap -/
theorem Rel.heap {ι : Inj} {σ : Heap} {w w' : World} (r : Rel ι σ w) (h : w'.heap = w.heap) : Rel ι σ w' := by
  refine ⟨fun b l hb => by rw [h]; exact r.dom b l hb, r.fresh, fun b hb => ?_, r.sep, r.top⟩
  obtain ⟨l, hl, ho⟩ := r.at_ b hb
  refine ⟨l, hl, ?_⟩
  cases hob : σ.obj b with
  | row x => rw [hob] at ho; exact ⟨ho.1, ⟨by rw [h]; exact ho.2.out⟩⟩
  | map es => rw [hob] at ho; exact ⟨ho.1, by rw [h]; exact ho.2⟩
  | loop a => rw [hob] at ho; exact ⟨ho.1, by rw [h]; exact ho.2⟩
  | dead => trivial
theorem Kept.drew {ι : Inj} {w : World} (d : Nat) : Kept ι w ι { w with drawn := d } := ⟨.refl _, Nat.le_refl _, fun _ _ h => ⟨rfl, h⟩, rfl, rfl, rfl, ι.more⟩
end
end Go.Idl

/- The ideal machine, part B: what loading, storing and making memory do to a world, and to a heap beside it. -/
namespace Go.Idl
open Go
noncomputable section

/-! ## A row of cells with some of them written over -/
def spl (c : Array Value) (k : Nat) : List Value → Array Value
  | [] => c
  | v :: l => spl (c.setIfInBounds k v) (k + 1) l
@[simp] theorem size_spl : ∀ (l : List Value) (c : Array Value) (k : Nat), (spl c k l).size = c.size
  | [], _, _ => rfl
  | v :: l, c, k => by simp only [spl]; rw [size_spl l]; simp
theorem get_spl : ∀ (l : List Value) (c : Array Value) (k j : Nat), (spl c k l)[j]? = if k ≤ j ∧ j < k + l.length ∧ j < c.size then l[j - k]? else c[j]?
  | [], c, k, j => by simp only [spl, List.length_nil]; rw [if_neg (by omega)]
  | v :: l, c, k, j => by
    simp only [spl, List.length_cons]
    rw [get_spl l]
    simp only [Array.size_setIfInBounds]
    by_cases h1 : j = k
    · subst h1
      rw [if_neg (by omega)]
      by_cases h2 : j < c.size
      · rw [if_pos (by omega), Array.getElem?_setIfInBounds_self]; simp [h2]
      · rw [if_neg (by omega), Array.getElem?_setIfInBounds_self]; simp [h2]
    · by_cases h2 : k + 1 ≤ j ∧ j < k + 1 + l.length ∧ j < c.size
      · rw [if_pos h2, if_pos (by omega)]
        have : j - k = (j - (k + 1)) + 1 := by omega
        rw [this, List.getElem?_cons_succ]
      · rw [if_neg h2, if_neg (by omega), Array.getElem?_setIfInBounds_ne (Ne.symm h1)]

/-! ## The model's words on cells -/
def cellish : Value → Bool
  | .agg _ | .tuple _ => false
  | _ => true
theorem VRel.cellish {ι : Inj} {v v' : Value} (h : VRel ι v v') : cellish v' = cellish v := by cases h <;> rfl
@[simp] theorem addr_add (B o n : Nat) : (⟨B, o, none⟩ : Addr).add n = ⟨B, o + n, none⟩ := by
  unfold Addr.add; split <;> simp_all
section
variable {P : Program}
theorem cell?_of {w : World} {B o : Nat} {c : Array Value} {e : TypeId} {fr : Nat × Nat} (h : w.heap[B]? = some (.cells c e fr)) :
    w.cell? ⟨B, o, none⟩ = c[o]? := by simp [World.cell?, h]
theorem frozen?_of {w : World} {B o : Nat} {c : Array Value} {e : TypeId} {fr : Nat × Nat} (h : w.heap[B]? = some (.cells c e fr))
    (hf : unfrozen c.size fr) (ho : o < c.size) : w.frozen? ⟨B, o, none⟩ = false := by
  have : ¬ (fr.1 ≤ o ∧ o < fr.2) := by rcases hf with hf | hf <;> omega
  simp only [World.frozen?, h]
  simpa using this
/-- the heap with one object in another's place -/
def World.setObj (w : World) (B : Nat) (o : Obj) : World := { w with heap := w.heap.setIfInBounds B o }
theorem heap_setObj (w : World) (B C : Nat) (o : Obj) (hB : B < w.heap.size) : (World.setObj w B o).heap[C]? = if C = B then some o else w.heap[C]? := by
  simp only [World.setObj]
  by_cases h : C = B
  · subst h; rw [if_pos rfl, Array.getElem?_setIfInBounds_self]; simp [hB]
  · rw [if_neg h, Array.getElem?_setIfInBounds_ne (Ne.symm h)]
@[simp] theorem size_setObj (w : World) (B : Nat) (o : Obj) : (World.setObj w B o).heap.size = w.heap.size := by simp [World.setObj]
theorem setCell_eq {w : World} {B o : Nat} {c : Array Value} {e : TypeId} {fr : Nat × Nat} (v : Value) (h : w.heap[B]? = some (.cells c e fr)) :
    w.setCell ⟨B, o, none⟩ v = World.setObj w B (.cells (c.setIfInBounds o v) e fr) := by
  have hB : B < w.heap.size := (Array.getElem?_eq_some_iff.1 h).1
  have hv : w.heap[B] = .cells c e fr := (Array.getElem?_eq_some_iff.1 h).2
  simp only [World.setCell, World.setObj]
  congr 1
  apply Array.ext
  · simp
  · intro i h1 h2
    rw [Array.getElem_modify, Array.getElem_setIfInBounds]
    by_cases hi : B = i
    · subst hi; simp [hv]
    · simp [hi]
    · simpa using h1
theorem setObj_self {w : World} {B : Nat} {o : Obj} (h : w.heap[B]? = some o) : World.setObj w B o = w := by
  have hB : B < w.heap.size := (Array.getElem?_eq_some_iff.1 h).1
  have hv : w.heap[B] = o := (Array.getElem?_eq_some_iff.1 h).2
  simp only [World.setObj]
  have : w.heap.setIfInBounds B o = w.heap := by
    apply Array.ext
    · simp
    · intro i h1 h2
      rw [Array.getElem_setIfInBounds h2]
      by_cases hi : B = i
      · subst hi; simp [hv]
      · simp [hi]
  rw [this]
theorem setObj_setObj (w : World) (B : Nat) (o o' : Obj) : World.setObj (World.setObj w B o) B o' = World.setObj w B o' := by
  simp only [World.setObj, Array.setIfInBounds_setIfInBounds]
theorem run_store {w : World} {B o : Nat} {c : Array Value} {e : TypeId} {fr : Nat × Nat} {v : Value} (h : w.heap[B]? = some (.cells c e fr))
    (hf : unfrozen c.size fr) (ho : o < c.size) (hv : cellish v = true) {α : Type} (k : Sem α) :
    (Sem.store .plain ⟨B, o, none⟩ v k).run P w = k.run P (World.setObj w B (.cells (c.setIfInBounds o v) e fr)) := by
  have h1 : w.cell? ⟨B, o, none⟩ = some c[o] := by rw [cell?_of h]; simp [ho]
  have h2 := frozen?_of h hf ho
  have h3 := setCell_eq (o := o) v h
  cases v <;> simp_all [Sem.run, cellish]
theorem run_storeCells : ∀ (vs : List Value) (B o i : Nat) (c : Array Value) (e : TypeId) (fr : Nat × Nat) (w : World), w.heap[B]? = some (.cells c e fr) →
    unfrozen c.size fr → o + i + vs.length ≤ c.size → (∀ v ∈ vs, cellish v = true) →
    (storeCells ⟨B, o, none⟩ vs i).run P w = .ok () (World.setObj w B (.cells (spl c (o + i) vs) e fr))
  | [], B, o, i, c, e, fr, w, h, _, _, _ => by simp [storeCells, spl, setObj_self h]
  | v :: vs, B, o, i, c, e, fr, w, h, hf, hl, hc => by
    have hB : B < w.heap.size := (Array.getElem?_eq_some_iff.1 h).1
    simp only [storeCells, addr_add, List.length_cons] at *
    have hs : (store ⟨B, o + i, none⟩ v >>= fun _ => storeCells ⟨B, o, none⟩ vs (i + 1)) =
        Sem.store .plain ⟨B, o + i, none⟩ v (storeCells ⟨B, o, none⟩ vs (i + 1)) := rfl
    rw [hs, run_store h hf (by omega) (hc v (by simp))]
    have hn : (World.setObj w B (.cells (c.setIfInBounds (o + i) v) e fr)).heap[B]? = some (.cells (c.setIfInBounds (o + i) v) e fr) := by
      rw [heap_setObj _ _ _ _ hB]; simp
    rw [run_storeCells vs B o (i + 1) _ e fr _ hn (by simpa using hf) (by simp; omega) (fun v hv => hc v (by simp [hv])), setObj_setObj]
    simp only [spl]; rfl
theorem run_loadCellsFrom : ∀ (n B o i : Nat) (c : Array Value) (e : TypeId) (fr : Nat × Nat) (w : World) (acc : Array Value), w.heap[B]? = some (.cells c e fr) →
    o + i + n ≤ c.size → (loadCellsFrom ⟨B, o, none⟩ i n acc).run P w = .ok (acc ++ c.extract (o + i) (o + i + n)) w
  | 0, B, o, i, c, e, fr, w, acc, h, hl => by simp [loadCellsFrom]; omega
  | n + 1, B, o, i, c, e, fr, w, acc, h, hl => by
    simp only [loadCellsFrom, addr_add]
    have hs : (load ⟨B, o + i, none⟩ >>= fun v => loadCellsFrom ⟨B, o, none⟩ (i + 1) n (acc.push v)) =
        Sem.load .plain ⟨B, o + i, none⟩ (fun v => loadCellsFrom ⟨B, o, none⟩ (i + 1) n (acc.push v)) := rfl
    have h1 : w.cell? ⟨B, o + i, none⟩ = some (c[o + i]'(by omega)) := by rw [cell?_of h]; simp
    rw [hs]
    simp only [Sem.run, h1]
    rw [run_loadCellsFrom n B o (i + 1) c e fr w _ h (by omega)]
    congr 1
    apply Array.ext
    · simp; omega
    · intro j h2 h3
      simp only [Array.getElem_append, Array.size_push, Array.getElem_extract, Array.getElem_push]
      split <;> rename_i h4
      · split <;> rename_i h5
        · rfl
        · simp only [show j = acc.size by omega, Nat.sub_self, Nat.add_zero]
      · rw [dif_neg (by omega)]
        congr 1; omega
theorem run_loadCells {n B o : Nat} {c : Array Value} {e : TypeId} {fr : Nat × Nat} {w : World} (h : w.heap[B]? = some (.cells c e fr)) (hl : o + n ≤ c.size) :
    (loadCells ⟨B, o, none⟩ n).run P w = .ok (c.extract o (o + n)) w := by
  unfold loadCells
  rw [run_loadCellsFrom n B o 0 c e fr w #[] h (by omega)]
  simp
theorem run_load {B o : Nat} {c : Array Value} {e : TypeId} {fr : Nat × Nat} {w : World} (h : w.heap[B]? = some (.cells c e fr)) (hl : o < c.size) :
    (load ⟨B, o, none⟩).run P w = .ok c[o] w := by
  have h1 : w.cell? ⟨B, o, none⟩ = some c[o] := by rw [cell?_of h]; simp [hl]
  simp [load, Sem.run, h1]
end

/-! ## Cells of a heap -/
def tsub {α : Type} (t : T α) : Nat → Nat → Option (List α)
  | _, 0 => some []
  | o, n + 1 =>
    match t.get o with
    | none => none
    | some v => match tsub t (o + 1) n with
      | none => none
      | some l => some (v :: l)
theorem tsub_spec {α : Type} (t : T α) : ∀ (n o : Nat) (l : List α), tsub t o n = some l → l.length = n ∧ ∀ i, i < n → t.get (o + i) = l[i]?
  | 0, o, l, h => by simp only [tsub, Option.some.injEq] at h; subst h; exact ⟨rfl, fun i h => by omega⟩
  | n + 1, o, l, h => by
    simp only [tsub] at h
    cases h1 : t.get o with
    | none => simp [h1] at h
    | some v =>
      simp only [h1] at h
      cases h2 : tsub t (o + 1) n with
      | none => simp [h2] at h
      | some m =>
        simp only [h2, Option.some.injEq] at h
        subst h
        obtain ⟨h3, h4⟩ := tsub_spec t n (o + 1) m h2
        refine ⟨by simp [h3], fun i hi => ?_⟩
        cases i with
        | zero => simpa using h1
        | succ i => simp only [List.getElem?_cons_succ]; rw [← h4 i (by omega)]; congr 1; omega
def Heap.row? (σ : Heap) (b : Nat) : Option Row :=
  match σ.obj b with
  | .row r => some r
  | _ => none
theorem Heap.row?_eq {σ : Heap} {b : Nat} {r : Row} (h : σ.row? b = some r) : σ.obj b = .row r := by
  unfold Heap.row? at h
  split at h
  · cases h; assumption
  · cases h
/-- n cells of a row -/
def Heap.loadL (σ : Heap) (b o n : Nat) : Option (List Value) :=
  match σ.row? b with
  | none => none
  | some r => bif Nat.ble (o + n) r.size then tsub r.cells o n else none
def Heap.load1 (σ : Heap) (b o : Nat) : Option Value :=
  match σ.row? b with
  | none => none
  | some r => bif Nat.blt o r.size then r.cells.get o else none

theorem nble {a b : Nat} : Nat.ble a b = decide (a ≤ b) := by rw [Bool.eq_iff_iff]; simp
theorem nblt {a b : Nat} : Nat.blt a b = decide (a < b) := by rw [Bool.eq_iff_iff]; simp [Nat.blt, Nat.succ_le_iff]

section
variable {ι : Inj} {σ : Heap} {w : World}
theorem Rel.row (h : Rel ι σ w) {b : Nat} {r : Row} (hr : σ.obj b = .row r) : ∃ l, ι b = some l ∧ l.ro = r.ro ∧ RowAt ι r l w := by
  obtain ⟨l, hl, ho⟩ := h.at_ b (by rw [hr]; rfl)
  rw [hr] at ho
  exact ⟨l, hl, ho.1, ho.2⟩
theorem loadL_rel (h : Rel ι σ w) {b o n : Nat} {vs : List Value} (hv : σ.loadL b o n = some vs) {l : Loc} (hb : ι b = some l) :
    ∃ c e fr, w.heap[l.blk]? = some (.cells c e fr) ∧ l.base + o + n ≤ c.size ∧ LRel ι vs (c.extract (l.base + o) (l.base + o + n)).toList := by
  unfold Heap.loadL at hv
  cases hr : σ.row? b with
  | none => simp [hr] at hv
  | some r =>
    simp only [hr] at hv
    cases hle : Nat.ble (o + n) r.size with
    | false => simp [hle] at hv
    | true =>
      simp only [hle, cond_true] at hv
      have hle' : o + n ≤ r.size := by simpa using hle
      obtain ⟨l', hl', _, ⟨c, e, fr, h1, _, _, h3, h4⟩⟩ := h.row (Heap.row?_eq hr)
      rw [hb] at hl'; cases hl'
      obtain ⟨h5, h6⟩ := tsub_spec _ _ _ _ hv
      refine ⟨c, e, fr, h1, by omega, by simp [h5]; omega, fun i v v' hi hi' => ?_⟩
      have hin : i < n := by rw [← h5]; exact (List.getElem?_eq_some_iff.1 hi).1
      obtain ⟨x, x', hx, hx', hxr⟩ := h4 (o + i) (by omega)
      rw [h6 i hin, hi] at hx
      cases hx
      have : (c.extract (l.base + o) (l.base + o + n)).toList[i]? = c[l.base + (o + i)]? := by
        rw [Array.getElem?_toList, Array.getElem?_extract, if_pos (by omega)]
        congr 1; omega
      rw [this, hx'] at hi'
      cases hi'
      exact hxr
theorem load1_rel (h : Rel ι σ w) {b o : Nat} {v : Value} (hv : σ.load1 b o = some v) {l : Loc} (hb : ι b = some l) :
    ∃ c e fr, w.heap[l.blk]? = some (.cells c e fr) ∧ ∃ hlt : l.base + o < c.size, VRel ι v c[l.base + o] := by
  unfold Heap.load1 at hv
  cases hr : σ.row? b with
  | none => simp [hr] at hv
  | some r =>
    simp only [hr] at hv
    cases hle : Nat.blt o r.size with
    | false => simp [hle] at hv
    | true =>
      simp only [hle, cond_true] at hv
      have hle' : o < r.size := by rw [nblt] at hle; simpa using hle
      obtain ⟨l', hl', _, ⟨c, e, fr, h1, _, _, h3, h4⟩⟩ := h.row (Heap.row?_eq hr)
      rw [hb] at hl'; cases hl'
      obtain ⟨x, x', hx, hx', hxr⟩ := h4 o hle'
      rw [hv] at hx; cases hx
      have hlt : l.base + o < c.size := by omega
      refine ⟨c, e, fr, h1, hlt, ?_⟩
      rw [Array.getElem?_eq_getElem hlt] at hx'
      cases hx'
      exact hxr
end
end
end Go.Idl

/- The ideal machine, part C: storing into a heap, new objects. -/
namespace Go.Idl
open Go
noncomputable section

theorem EsRel.mono {ι ι' : Inj} (h : ι.le ι') {es : List (Value × Value)} {es' : List MapEntry} (r : EsRel ι es es') : EsRel ι' es es' :=
  ⟨r.1, fun i x y h1 h2 => ⟨(r.2 i x y h1 h2).1.mono h, (r.2 i x y h1 h2).2.mono h⟩⟩
theorem TRel.mono {ι ι' : Inj} (h : ι.le ι') {t : T Value} {a : Array Value} (r : TRel ι t a) : TRel ι' t a := fun i => (r i).mono h
theorem LoopRel.mono {ι ι' : Inj} (h : ι.le ι') {a : ALoop} {l : Loop} (r : LoopRel ι a l) : LoopRel ι' a l :=
  ⟨r.n, r.tm.mono h, r.params, r.assign, r.body, r.state, r.pending⟩
theorem RowAt.mono {ι ι' : Inj} {w w' : World} {r : Row} {l : Loc} (h : ι.le ι') (hw : w'.heap[l.blk]? = w.heap[l.blk]?) (x : RowAt ι r l w) : RowAt ι' r l w' := by
  obtain ⟨c, e, fr, h1, h2, hz, h3, h4⟩ := x.out
  exact ⟨c, e, fr, hw.trans h1, h2, hz, h3, fun i hi => let ⟨v, v', a, b, d⟩ := h4 i hi; ⟨v, v', a, b, d.mono h⟩⟩
theorem ObjAt.mono {ι ι' : Inj} {w w' : World} {o : AObj} {l : Loc} (h : ι.le ι') (hw : w'.heap[l.blk]? = w.heap[l.blk]?) (x : ObjAt ι o l w) : ObjAt ι' o l w' := by
  cases o with
  | row r => exact ⟨x.1, x.2.mono h hw⟩
  | map es => obtain ⟨hr, es', c, h1, h2⟩ := x; exact ⟨hr, es', c, hw.trans h1, h2.mono h⟩
  | loop a => obtain ⟨hr, r, h1, h2⟩ := x; exact ⟨hr, r, hw.trans h1, h2.mono h⟩
  | dead => trivial

def Heap.kill (σ : Heap) : Option Nat → Heap
  | none => σ
  | some b => σ.put b .dead
theorem obj_kill (σ : Heap) (o : Option Nat) (c : Nat) : (σ.kill o).obj c = if o = some c then .dead else σ.obj c := by
  cases o with
  | none => simp [Heap.kill]
  | some b =>
    simp only [Heap.kill, Heap.obj_put, Option.some.injEq]
    by_cases h : c = b
    · simp [h]
    · simp [h, Ne.symm h]
@[simp] theorem next_kill (σ : Heap) (o : Option Nat) : (σ.kill o).next = σ.next := by cases o <;> rfl
theorem live_kill {σ : Heap} {o : Option Nat} {c : Nat} (h : ((σ.kill o).obj c).live = true) : o ≠ some c ∧ (σ.kill o).obj c = σ.obj c := by
  rw [obj_kill] at *
  split at h
  · cases h
  · rename_i hne; exact ⟨hne, if_neg hne⟩
theorem Rel.kill {ι : Inj} {σ : Heap} {w : World} (h : Rel ι σ w) (o : Option Nat) : Rel ι (σ.kill o) w := by
  refine ⟨fun b l hb => by rw [next_kill]; exact h.dom b l hb, fun b hb => ?_, fun b hb => ?_, fun b c l m hne hb hc hl hm he => ?_, by rw [next_kill]; exact h.top⟩
  · rw [next_kill] at hb
    rw [obj_kill, h.fresh b hb]; split <;> rfl
  · obtain ⟨_, he⟩ := live_kill hb
    rw [he] at hb ⊢
    exact h.at_ b hb
  · obtain ⟨_, e1⟩ := live_kill hb
    obtain ⟨_, e2⟩ := live_kill hc
    rw [e1] at hb; rw [e2] at hc
    refine (h.sep b c l m hne hb hc hl hm he).imp id ?_
    rintro ⟨r, s, h1, h2, h3⟩
    exact ⟨r, s, e1.trans h1, e2.trans h2, h3⟩

/-! ### Storing -/
def Heap.storeL (σ : Heap) (b o : Nat) (vs : List Value) : Option Heap :=
  match σ.row? b with
  | none => none
  | some r =>
    bif r.ro then none else bif Nat.ble (o + vs.length) r.size && vs.all cellish then
      some (((σ.kill r.par).kill r.kid).put b (.row { size := r.size, cells := T.ofL r.cells o vs, ro := false, par := none, kid := none }))
    else none
section
variable {ι : Inj} {σ : Heap} {w : World}
theorem LRel.cellish {vs vs' : List Value} (h : LRel ι vs vs') (hc : vs.all cellish = true) : ∀ v ∈ vs', cellish v = true := by
  intro v hv
  obtain ⟨i, hi⟩ := List.getElem?_of_mem hv
  have hlt : i < vs.length := by rw [h.1]; exact (List.getElem?_eq_some_iff.1 hi).1
  have := h.2 i vs[i] v (by simp [hlt]) hi
  rw [this.cellish]
  exact List.all_eq_true.1 hc _ (by simp)
/-- the block of a row that may be written, and that of another one -/
theorem Rel.other (h : Rel ι σ w) {b c : Nat} {r : Row} {l m : Loc} (hr : σ.obj b = .row r) (hro : r.ro = false) (hne : c ≠ b) (hc : (σ.obj c).live = true)
    (hl : ι b = some l) (hm : ι c = some m) (hp : r.par ≠ some c) (hk : r.kid ≠ some c) : m.blk ≠ l.blk := by
  intro he
  rcases h.sep b c l m (Ne.symm hne) (by rw [hr]; rfl) hc hl hm he.symm with ⟨h1, _⟩ | ⟨r', s, h1, _, h3⟩
  · obtain ⟨l', hl', hlr, _⟩ := h.row hr
    rw [hl] at hl'; cases hl'
    rw [hlr, hro] at h1; cases h1
  · rw [hr] at h1; cases h1
    rcases h3 with ⟨h4, _⟩ | ⟨h4, _⟩
    · exact hk h4
    · exact hp h4
theorem storeL_rel (h : Rel ι σ w) {b o : Nat} {vs vs' : List Value} {σ' : Heap} (hs : σ.storeL b o vs = some σ') (hv : LRel ι vs vs') {l : Loc} (hb : ι b = some l) :
    ∃ c e fr, w.heap[l.blk]? = some (.cells c e fr) ∧ unfrozen c.size fr ∧ l.base + o + vs'.length ≤ c.size ∧ (∀ v ∈ vs', cellish v = true) ∧
      Rel ι σ' (World.setObj w l.blk (.cells (spl c (l.base + o) vs') e fr)) ∧ Kept ι w ι (World.setObj w l.blk (.cells (spl c (l.base + o) vs') e fr)) := by
  unfold Heap.storeL at hs
  cases hr : σ.row? b with
  | none => simp [hr] at hs
  | some r =>
    simp only [hr] at hs
    have hr := Heap.row?_eq hr
    cases hro : r.ro with
    | true => simp [hro] at hs
    | false =>
      simp only [hro, cond_false] at hs
      cases hg : (Nat.ble (o + vs.length) r.size && vs.all cellish) with
      | false => simp [hg] at hs
      | true =>
        simp only [hg, cond_true, Option.some.injEq] at hs
        subst hs
        simp only [Bool.and_eq_true] at hg
        obtain ⟨hle, hce⟩ := hg
        have hle : o + vs.length ≤ r.size := by simpa using hle
        obtain ⟨l', hl', hlr, ⟨c, e, fr, h1, h2, hz, h3, h4⟩⟩ := h.row hr
        rw [hb] at hl'; cases hl'
        have hlro : l.ro = false := hlr.trans hro
        have hB := (h.dom b l hb).2
        have hlen := hv.1
        refine ⟨c, e, fr, h1, h2 hro, by omega, hv.cellish hce, ?_, ⟨.refl _, by simp, fun B hBl hu => ⟨?_, hu⟩, rfl, rfl, rfl, ι.more⟩⟩
        · have hobj : ∀ c, c ≠ b → (((σ.kill r.par).kill r.kid).put b (.row { size := r.size, cells := T.ofL r.cells o vs, ro := false, par := none, kid := none })).obj c =
              if r.par = some c ∨ r.kid = some c then .dead else σ.obj c := by
            intro c hc
            rw [Heap.obj_put, if_neg hc, obj_kill, obj_kill]
            by_cases h1 : r.kid = some c <;> by_cases h2 : r.par = some c <;> simp [h1, h2]
          refine ⟨fun c m hm => by simpa using h.dom c m hm, fun c hc => ?_, fun d hc => ?_, fun x y lx ly hne hx hy hlx hly he => ?_, by simpa using h.top⟩
          · have hc' : σ.next ≤ c := by simpa using hc
            have hcb : c ≠ b := fun hh => by have := (h.dom b l hb).1; omega
            rw [hobj c hcb, h.fresh c hc']; split <;> rfl
          · by_cases hcb : d = b
            · subst hcb
              refine ⟨l, hb, ?_⟩
              rw [Heap.obj_put, if_pos rfl]
              refine ⟨hlro, ⟨spl c (l.base + o) vs', e, fr, ?_, fun _ => by simpa using h2 hro, by simpa using hz, by simpa using h3, fun i hi => ?_⟩⟩
              · rw [heap_setObj _ _ _ _ hB]; simp
              · obtain ⟨v, v', hv1, hv2, hv3⟩ := h4 i hi
                simp only [T.get_ofL, get_spl]
                by_cases hin : o ≤ i ∧ i < o + vs.length
                · refine ⟨vs[i - o]'(by omega), vs'[i - o]'(by omega), ?_, ?_, hv.2 (i - o) _ _ (by simp) (by simp)⟩
                  · rw [if_pos hin]; simp
                  · rw [if_pos (by omega)]
                    have : l.base + i - (l.base + o) = i - o := by omega
                    rw [this]; simp
                · refine ⟨v, v', ?_, ?_, hv3⟩
                  · rw [if_neg hin]; exact hv1
                  · rw [if_neg (by omega)]; exact hv2
            · rw [hobj d hcb] at hc ⊢
              split at hc
              · cases hc
              · rename_i hk
                rw [if_neg hk]
                obtain ⟨m, hm, ho⟩ := h.at_ d hc
                have hne : m.blk ≠ l.blk := h.other hr hro hcb hc hb hm (fun x => hk (.inl x)) (fun x => hk (.inr x))
                exact ⟨m, hm, ho.mono (.refl _) (by rw [heap_setObj _ _ _ _ hB, if_neg hne])⟩
          · have key : ∀ {x y : Nat} {lx ly : Loc}, x ≠ y → x = b → ((((σ.kill r.par).kill r.kid).put b (.row { size := r.size, cells := T.ofL r.cells o vs, ro := false, par := none, kid := none })).obj y).live = true →
                ι x = some lx → ι y = some ly → lx.blk = ly.blk → False := by
              intro x y lx ly hne hxb hy hlx hly he
              subst hxb
              rw [hobj y (Ne.symm hne)] at hy
              split at hy
              · cases hy
              · rename_i hk
                exact h.other hr hro (Ne.symm hne) hy hlx hly (fun z => hk (.inl z)) (fun z => hk (.inr z)) he.symm
            by_cases hxb : x = b
            · exact (key hne hxb hy hlx hly he).elim
            · by_cases hyb : y = b
              · exact (key (Ne.symm hne) hyb hx hly hlx he.symm).elim
              · have ex := hobj x hxb
                have ey := hobj y hyb
                rw [ex] at hx; rw [ey] at hy
                split at hx
                · cases hx
                · rename_i hkx
                  split at hy
                  · cases hy
                  · rename_i hky
                    rw [if_neg hkx] at ex; rw [if_neg hky] at ey
                    refine (h.sep x y lx ly hne hx hy hlx hly he).imp id ?_
                    rintro ⟨r1, s1, g1, g2, g3⟩
                    exact ⟨r1, s1, ex.trans g1, ey.trans g2, g3⟩
        · rw [heap_setObj _ _ _ _ hB, if_neg (fun hh => hu b l hb hlro hh.symm)]

/-! ### New objects -/
theorem Rel.push (h : Rel ι σ w) (o : Obj) : Rel ι σ (w.alloc o) ∧ Kept ι w ι (w.alloc o) := by
  have hold : ∀ B, B < w.heap.size → (w.alloc o).heap[B]? = w.heap[B]? := by
    intro B hB; simp only [World.alloc]; rw [Array.getElem?_push, if_neg (by omega)]
  refine ⟨⟨fun b l hb => ?_, h.fresh, fun b hb => ?_, h.sep, h.top⟩, ⟨.refl _, by simp, fun B hB hu => ⟨hold B hB, hu⟩, rfl, rfl, rfl, ι.more⟩⟩
  · have := h.dom b l hb; simp; omega
  · obtain ⟨l, hl, ho⟩ := h.at_ b hb
    exact ⟨l, hl, ho.mono (.refl _) (hold _ (h.dom b l hl).2)⟩
/-- a block that no object has is given to a new object -/
theorem Rel.adopt (h : Rel ι σ w) {B z : Nat} {o : AObj} (hB : B < w.heap.size) (hun : ∀ b l, ι b = some l → l.blk ≠ B)
    (ho : ObjAt (ι.add σ.next ⟨B, 0, z, false⟩) o ⟨B, 0, z, false⟩ w) : Rel (ι.add σ.next ⟨B, 0, z, false⟩) (σ.new o) w := by
  have hnone : ι σ.next = none := by
    cases hx : ι σ.next with
    | none => rfl
    | some l => have := (h.dom _ _ hx).1; omega
  have hle : ι.le (ι.add σ.next ⟨B, 0, z, false⟩) := Inj.le_add _ hnone
  refine ⟨fun b l hb => ?_, fun b hb => ?_, fun b hb => ?_, fun b c l m hne hb hc hl hm he => ?_, by rw [Inj.top_add, Heap.next_new]⟩
  · by_cases hbn : b = σ.next
    · subst hbn; rw [Inj.add_same] at hb; cases hb; exact ⟨by simp, hB⟩
    · rw [Inj.add_ne _ _ hbn] at hb; have := h.dom b l hb; simp; omega
  · simp only [Heap.next_new] at hb
    rw [Heap.obj_new, if_neg (by omega)]; exact h.fresh b (by omega)
  · rw [Heap.obj_new] at hb ⊢
    by_cases hbn : b = σ.next
    · subst hbn
      rw [if_pos rfl]
      exact ⟨⟨B, 0, z, false⟩, Inj.add_same _ _ _, ho⟩
    · rw [if_neg hbn] at hb ⊢
      obtain ⟨l, hl, hob⟩ := h.at_ b hb
      exact ⟨l, hle _ _ hl, hob.mono hle rfl⟩
  · rw [Heap.obj_new] at hb hc
    have old : ∀ x, x ≠ σ.next → ∀ lx, (ι.add σ.next ⟨B, 0, z, false⟩) x = some lx → ι x = some lx := fun x hx lx hh => by rwa [Inj.add_ne _ _ hx] at hh
    by_cases hbn : b = σ.next
    · subst hbn
      rw [Inj.add_same] at hl; cases hl
      exact (hun c m (old c (Ne.symm hne) m hm) he.symm).elim
    · by_cases hcn : c = σ.next
      · subst hcn
        rw [Inj.add_same] at hm; cases hm
        exact (hun b l (old b hbn l hl) he).elim
      · rw [if_neg hbn] at hb; rw [if_neg hcn] at hc
        refine (h.sep b c l m hne hb hc (old b hbn l hl) (old c hcn m hm) he).imp id ?_
        rintro ⟨r1, s1, g1, g2, g3⟩
        exact ⟨r1, s1, by rw [Heap.obj_new, if_neg hbn]; exact g1, by rw [Heap.obj_new, if_neg hcn]; exact g2, g3⟩
theorem Rel.unused (h : Rel ι σ w) : ∀ b l, ι b = some l → l.blk ≠ w.heap.size := fun b l hb hh => by have := (h.dom b l hb).2; omega
theorem Rel.next_none (h : Rel ι σ w) : ι σ.next = none := by
  cases hx : ι σ.next with
  | none => rfl
  | some l => have := (h.dom _ _ hx).1; omega
theorem Rel.more_add (h : Rel ι σ w) (l : Loc) (hl : l.ro = false) : ι.top ≤ (ι.add σ.next l).top ∧ ∀ b m, ι.add σ.next l b = some m → ι b = some m ∨ (ι.top ≤ b ∧ m.ro = false) := by
  have ht := h.top
  refine ⟨by rw [Inj.top_add]; omega, fun b m hm => ?_⟩
  by_cases hb : b = σ.next
  · subst hb
    rw [Inj.add_same] at hm
    cases hm
    exact .inr ⟨by omega, hl⟩
  · rw [Inj.add_ne _ _ hb] at hm
    exact .inl hm
/-- a new object, in a block of its own -/
theorem Rel.new (h : Rel ι σ w) {z : Nat} {o : AObj} {o' : Obj}
    (ho : ObjAt (ι.add σ.next ⟨w.heap.size, 0, z, false⟩) o ⟨w.heap.size, 0, z, false⟩ (w.alloc o')) :
    Rel (ι.add σ.next ⟨w.heap.size, 0, z, false⟩) (σ.new o) (w.alloc o') ∧ Kept ι w (ι.add σ.next ⟨w.heap.size, 0, z, false⟩) (w.alloc o') := by
  obtain ⟨h1, h2⟩ := h.push o'
  refine ⟨h1.adopt (by simp) h.unused ho, ⟨Inj.le_add _ h.next_none, h2.size, fun B hB hu => ⟨(h2.old B hB hu).1, ?_⟩, rfl, rfl, rfl, h.more_add _ rfl⟩⟩
  intro b l hb hro
  by_cases hbn : b = σ.next
  · subst hbn; rw [Inj.add_same] at hb; cases hb; intro hh; simp at hh; omega
  · rw [Inj.add_ne _ _ hbn] at hb; exact hu b l hb hro
/-- a row of cells -/
theorem rowAt_new {ι : Inj} {w : World} {vs : List Value} {c : Array Value} {t : T Value} (e : TypeId) (hn : ∀ i, i < vs.length → t.get i = vs[i]?) (hr : LRel ι vs (c.toList.take vs.length))
    (hc : vs.length ≤ c.size) (ro : Bool) (par kid : Option Nat) (lro : Bool) :
    RowAt ι { size := vs.length, cells := t, ro := ro, par := par, kid := kid } ⟨w.heap.size, 0, c.size, lro⟩ (w.alloc (.cells c e)) := by
  refine ⟨c, e, (0, 0), by simp only [World.alloc]; simp, fun _ => .inl rfl, rfl, by simpa using hc, fun i hi => ?_⟩
  have h1 : vs[i]? = some vs[i] := by simp [hi]
  have h2 : (c.toList.take vs.length)[i]? = some (c[i]'(by simp at hi; omega)) := by
    rw [List.getElem?_take, if_pos hi]; simp
  refine ⟨vs[i], c[i]'(by simp at hi; omega), (hn i hi).trans h1, ?_, hr.2 i _ _ h1 h2⟩
  simp
end
end
end Go.Idl

/- The ideal machine, part D: operations that only compute. -/
namespace Go.Idl
open Go
noncomputable section

/-- a tree that asks nothing but the program -/
def prun (P : Program) {α : Type} : Sem α → Option α
  | .pure a => some a
  | .program k => prun P (k P)
  | _ => none
theorem prun_run (P : Program) {α : Type} (s : Sem α) {a : α} (h : prun P s = some a) (w : World) : s.run P w = .ok a w := by
  induction s generalizing w with
  | pure b => simp only [prun, Option.some.injEq] at h; subst h; rfl
  | program k ih => simp only [prun] at h; simp only [Sem.run]; exact ih P h w
  | _ => simp [prun] at h

def allA {α : Type} (a : Array α) (p : α → Bool) : Bool := List.rec (motive := fun _ => Bool) true (fun x _ ih => bif p x then ih else false) a.toList
theorem allA_list {α : Type} (p : α → Bool) : ∀ l : List α, (List.rec (motive := fun _ => Bool) true (fun x _ ih => bif p x then ih else false) l : Bool) = l.all p
  | [] => rfl
  | x :: l => by
    rw [List.all_cons, ← allA_list p l]
    show (bif p x then (List.rec (motive := fun _ => Bool) true (fun x _ ih => bif p x then ih else false) l : Bool) else false) = _
    cases p x <;> rfl
theorem allA_eq {α : Type} (a : Array α) (p : α → Bool) : allA a p = a.all p := by
  rw [← Array.all_toList]; exact allA_list p a.toList
theorem allA_mem {α : Type} {a : Array α} {p : α → Bool} (h : allA a p = true) : ∀ x ∈ a, p x = true := by
  rw [allA_eq] at h
  exact Array.all_eq_true_iff_forall_mem.1 h
/-- values that name no memory -/
def gnd1 : Value → Bool
  | .bool _ | .int _ _ | .string _ | .nilFunc | .nilIface | .pointer none | .slice none _ _ | .map none => true
  | _ => false
def gnd : Value → Bool
  | .agg cs | .tuple cs => allA cs gnd1
  | v => gnd1 v
theorem VRel.gnd1 {ι : Inj} {v v' : Value} (h : VRel ι v v') (g : gnd1 v = true) : v' = v := by
  cases h <;> simp_all [Idl.gnd1]
theorem arr_gnd {a a' : Array Value} {ι : Inj} (h1 : a.size = a'.size) (h2 : ∀ (i : Nat) (v v' : Value), a[i]? = some v → a'[i]? = some v' → VRel ι v v')
    (g : a.all Idl.gnd1 = true) : a' = a := by
  apply Array.ext
  · exact h1.symm
  · intro i hi hi'
    have := h2 i a[i] a'[i] (by simp [hi']) (by simp [hi])
    exact this.gnd1 (Array.all_eq_true.1 g i hi')
theorem VRel.gnd {ι : Inj} {v v' : Value} (h : VRel ι v v') (g : Idl.gnd v = true) : v' = v := by
  cases h with
  | agg h1 h2 => simp only [Idl.gnd, allA_eq] at g; rw [arr_gnd h1 h2 g]
  | tuple h1 h2 => simp only [Idl.gnd, allA_eq] at g; rw [arr_gnd h1 h2 g]
  | _ => first | rfl | (simp [Idl.gnd, Idl.gnd1] at g)

abbrev Env := Operand → Value
def ERel (ι : Inj) (ρ ρ' : Env) (o : Op) : Prop := ∀ x ∈ o.operands, VRel ι (ρ x) (ρ' x)
theorem ERel.mono {ι ι' : Inj} (h : ι.le ι') {ρ ρ' : Env} {o : Op} (r : ERel ι ρ ρ' o) : ERel ι' ρ ρ' o := fun x hx => (r x hx).mono h

section words
variable {P : Program} {w : World}
theorem run_underlying {t : TypeId} {d : TypeDesc} (h : P.underlying t = some d) : (underlying t).run P w = .ok d w := by
  simp [underlying, h]
theorem run_typeInfo {t : TypeId} {i : TypeInfo} (h : P.info? t = some i) : (typeInfo t).run P w = .ok i w := by
  simp [typeInfo, h]
theorem run_sizeOf {t : TypeId} {i : TypeInfo} (h : P.info? t = some i) : (sizeOf t).run P w = .ok i.size w := by
  simp [sizeOf, run_typeInfo h]
end words

def tsz (P : Program) (t : TypeId) : Option Nat :=
  match P.info? t with
  | some i => some i.size
  | none => none
theorem tsz_run {P : Program} {t : TypeId} {n : Nat} (h : tsz P t = some n) (w : World) : (sizeOf t).run P w = .ok n w := by
  unfold tsz at h
  cases hi : P.info? t with
  | none => simp [hi] at h
  | some i => simp only [hi, Option.some.injEq] at h; subst h; exact run_sizeOf hi
def aggT (P : Program) (t : TypeId) : Option Bool :=
  match P.underlying t with
  | some (.struct _) | some (.array _ _) => some true
  | some _ => some false
  | none => none
theorem aggT_run {P : Program} {t : TypeId} {b : Bool} (h : aggT P t = some b) (w : World) : (isAgg t).run P w = .ok b w := by
  unfold aggT at h
  unfold isAgg
  cases hu : P.underlying t with
  | none => simp [hu] at h
  | some d =>
    simp only [hu] at h
    simp only [Sem.run_bind, run_underlying hu, Result.andThen_ok]
    cases d <;> simp_all

/-! ### addresses of parts -/
def fieldAddrA (P : Program) (s : TypeId) (v : Value) (f : Nat) : Option Value :=
  match P.underlying s with
  | some (.struct fs) =>
    match fs[f]? with
    | some fl =>
      match tsz P fl.type with
      | some (_ + 1) =>
        match v with
        | .pointer (some ⟨b, o, none⟩) => some (.pointer (some ⟨b, o + fl.offset, none⟩))
        | _ => none
      | _ => none
    | none => none
  | _ => none
theorem fieldAddrA_sound {P : Program} {ι : Inj} {s : TypeId} {v v' u : Value} {f : Nat} (hv : VRel ι v v') (h : fieldAddrA P s v f = some u) :
    ∃ u', VRel ι u u' ∧ ∀ w, (Instr.fieldAt s v' f).run P w = .ok u' w := by
  unfold fieldAddrA at h
  split at h <;> try (cases h; done)
  rename_i fs hu
  split at h <;> try (cases h; done)
  rename_i fl hf
  split at h <;> try (cases h; done)
  rename_i n hn
  split at h <;> try (cases h; done)
  rename_i b o
  cases h
  cases hv with
  | ptr hb =>
    refine ⟨_, .ptr hb, fun w => ?_⟩
    simp only [Instr.fieldAt, Sem.run_bind, run_underlying hu, Result.andThen_ok, hf, Instr.sureAddr, fieldPlace, tsz_run hn, Sem.run_pure]
    simp [Nat.add_assoc]

def intOf? : Value → Option Int
  | .int _ n => some n
  | _ => none
def indexAddrA (P : Program) (t : TypeId) (v ix : Value) : Option Value :=
  match ix with
  | .int _ (.ofNat i) =>
    match P.underlying t with
    | some (.slice elem) =>
      match v with
      | .slice (some ⟨b, o, _⟩) len _ =>
        bif Nat.blt i len then
          match tsz P elem with
          | some n => some (.pointer (some ⟨b, o + i * n, none⟩))
          | none => none
        else none
      | _ => none
    | some (.array len elem) =>
      match v with
      | .pointer (some ⟨b, o, none⟩) =>
        bif Nat.blt i len then
          match tsz P elem with
          | some n => some (.pointer (some ⟨b, o + i * n, none⟩))
          | none => none
        else none
      | _ => none
    | _ => none
  | _ => none
theorem indexAddrA_sound {P : Program} {ι : Inj} {t : TypeId} {v v' ix ix' u : Value} (hv : VRel ι v v') (hi : VRel ι ix ix') (h : indexAddrA P t v ix = some u) :
    ∃ u', VRel ι u u' ∧ ∀ w, (Instr.indexAt t v' ix').run P w = .ok u' w := by
  unfold indexAddrA at h
  split at h <;> try (cases h; done)
  rename_i k i
  cases hi
  split at h <;> try (cases h; done)
  · rename_i elem hu
    split at h <;> try (cases h; done)
    rename_i b o sp len cap
    cases hb : Nat.blt i len with
    | false => simp [hb] at h
    | true =>
      simp only [hb, cond_true] at h
      split at h <;> try (cases h; done)
      rename_i n hn
      cases h
      have hlt : i < len := by rw [nblt] at hb; simpa using hb
      have hc : (0 : Int) ≤ Int.ofNat i ∧ Int.ofNat i < (len : Int) := ⟨Int.natCast_nonneg _, by exact Int.ofNat_lt.2 hlt⟩
      have key : ∀ (l : Loc), ι b = some l → ∀ cap' w, (Instr.indexAt t (.slice (some ⟨l.blk, l.base + o, none⟩) len cap') (.int k (.ofNat i))).run P w =
          .ok (.pointer (some ⟨l.blk, l.base + (o + i * n), none⟩)) w := by
        intro l hl cap' w
        simp only [Instr.indexAt, asIntOf, Sem.run_bind, Sem.run_pure, run_underlying hu, Result.andThen_ok, hc, and_self, if_true, tsz_run hn]
        simp [Nat.add_assoc]
      cases hv with
      | slice len cap hl => exact ⟨_, .ptr hl, fun w => key _ hl _ w⟩
      | open_ len cap cap' hl _ _ => exact ⟨_, .ptr hl, fun w => key _ hl _ w⟩
      | zero p hl => omega
  · rename_i len elem hu
    split at h <;> try (cases h; done)
    rename_i b o
    cases hb : Nat.blt i len with
    | false => simp [hb] at h
    | true =>
      simp only [hb, cond_true] at h
      split at h <;> try (cases h; done)
      rename_i n hn
      cases h
      have hlt : i < len := by rw [nblt] at hb; simpa using hb
      have hc : (0 : Int) ≤ Int.ofNat i ∧ Int.ofNat i < (len : Int) := ⟨Int.natCast_nonneg _, by exact Int.ofNat_lt.2 hlt⟩
      cases hv with
      | ptr hl =>
        refine ⟨_, .ptr hl, fun w => ?_⟩
        simp only [Instr.indexAt, asIntOf, Sem.run_bind, Sem.run_pure, run_underlying hu, Result.andThen_ok, Instr.sureAddr, hc, and_self, if_true, tsz_run hn]
        simp [Nat.add_assoc]
def nilCheckA : Value → Option Value
  | .pointer (some a) => some (.pointer (some a))
  | .func (.func f) s c => some (.func (.func f) s c)
  | .func (.yield f) s c => some (.func (.yield f) s c)
  | _ => none
def extractA (v : Value) (i : Nat) : Option Value :=
  match v with
  | .tuple vs => vs[i]?
  | _ => none
theorem extractA_sound {P : Program} {ι : Inj} {v v' u : Value} {i : Nat} (hv : VRel ι v v') (h : extractA v i = some u) :
    ∃ u', VRel ι u u' ∧ ∀ w, (Instr.extract v' i).run P w = .ok u' w := by
  unfold extractA at h
  split at h <;> try (cases h; done)
  cases hv with
  | tuple h1 h2 =>
    rename_i vs vs'
    have hlt : i < vs.size := (Array.getElem?_eq_some_iff.1 h).1
    have hg : vs'[i]? = some (vs'[i]'(by omega)) := by simp
    refine ⟨_, h2 i _ _ h hg, fun w => ?_⟩
    simp only [Instr.extract, hg, Sem.run_pure]

/-! ### slicing -/
def natOf? : Option Value → Option (Option Nat)
  | none => some none
  | some (.int _ (.ofNat n)) => some (some n)
  | _ => none
theorem natOf?_rel {ι : Inj} {x : Option Operand} {ρ ρ' : Env} {n : Option Nat} (h : natOf? (x.map ρ) = some n) (hx : ∀ y, x = some y → VRel ι (ρ y) (ρ' y)) :
    (n = none ∧ x = none) ∨ ∃ y k m, x = some y ∧ n = some m ∧ ρ' y = .int k (m : Int) := by
  cases x with
  | none => simp only [Option.map_none, natOf?, Option.some.injEq] at h; exact .inl ⟨h.symm, rfl⟩
  | some y =>
    simp only [Option.map_some] at h
    have hr := hx y rfl
    unfold natOf? at h
    split at h
    · rename_i heq; cases heq
    · rename_i k m heq
      cases heq' : ρ y with
      | int k' m' =>
        rw [heq'] at heq hr
        cases heq; cases h
        cases hr' : ρ' y <;> rw [hr'] at hr <;> cases hr
        exact .inr ⟨y, k, m, rfl, rfl, hr'⟩
      | _ => rw [heq'] at heq; cases heq
    · cases h
/-- what is asked of 'x[l:h:m]' on a slice -/
def sliceA (P : Program) (t : TypeId) (v : Value) (lo hi mx : Option Nat) : Option Value :=
  match P.underlying t with
  | some (.slice elem) =>
    match tsz P elem with
    | none => none
    | some n =>
      match v with
      | .slice none len cap =>
        let m := mx.getD cap
        let h := hi.getD len
        let l := lo.getD 0
        bif Nat.ble m cap && Nat.ble h m && Nat.ble l h && (mx.isNone || hi.isSome) then some (.slice none (h - l) (m - l)) else none
      | .slice (some ⟨b, o, sp⟩) len cap =>
        let m := mx.getD cap
        let h := hi.getD len
        let l := lo.getD 0
        bif Nat.ble m cap && Nat.ble h m && Nat.ble l h && (mx.isNone || hi.isSome) then
          match sp with
          | none => some (.slice (some ⟨b, bif Nat.beq m l then o else o + l * n, none⟩) (h - l) (m - l))
          | some es =>
            bif Nat.beq es n then
              match mx with
              | none => some (.slice (some ⟨b, o + l * n, some es⟩) (h - l) (m - l))
              | some _ => bif Nat.beq m l then (bif Nat.beq cap 0 then some (.slice (some ⟨b, o, some es⟩) 0 0) else some (.slice (some ⟨b, o, none⟩) 0 0)) else some (.slice (some ⟨b, o + l * n, none⟩) (h - l) (m - l))
            else none
        else none
      | _ => none
  | _ => none
theorem run_sliceBound {P : Program} {w : World} {k : IntKind} {n y : Nat} {c : BoundsCode} (h : n ≤ y) : (Instr.sliceBound (.int k (n : Int)) y c).run P w = .ok n w := by
  have hc : (0 : Int) ≤ (n : Int) ∧ (n : Int) ≤ (y : Int) := ⟨Int.natCast_nonneg _, by exact Int.ofNat_le.2 h⟩
  simp only [Instr.sliceBound, asIntOf, Sem.run_bind, Sem.run_pure, Result.andThen_ok]
  rw [if_pos hc]; rfl
/-- the bounds, once they are known to fit -/
theorem run_sliceBounds {P : Program} {w : World} {len cap : Nat} {lo hi mx : Option Operand} {ρ : Env} {l h m : Option Nat}
    (hl : (l = none ∧ lo = none) ∨ ∃ y k n, lo = some y ∧ l = some n ∧ ρ y = .int k (n : Int))
    (hh : (h = none ∧ hi = none) ∨ ∃ y k n, hi = some y ∧ h = some n ∧ ρ y = .int k (n : Int))
    (hm : (m = none ∧ mx = none) ∨ ∃ y k n, mx = some y ∧ m = some n ∧ ρ y = .int k (n : Int))
    (b1 : m.getD cap ≤ cap) (b2 : h.getD len ≤ m.getD cap) (b3 : l.getD 0 ≤ h.getD len) (b4 : m.isNone = true ∨ h.isSome = true) :
    (Instr.sliceBounds true len cap (lo.map ρ) (hi.map ρ) (mx.map ρ)).run P w = .ok (l.getD 0, h.getD len, m.getD cap) w := by
  unfold Instr.sliceBounds
  rcases hm with ⟨rfl, rfl⟩ | ⟨ym, km, nm, rfl, rfl, em⟩
  · rcases hh with ⟨rfl, rfl⟩ | ⟨yh, kh, nh, rfl, rfl, eh⟩
    · rcases hl with ⟨rfl, rfl⟩ | ⟨yl, kl, nl, rfl, rfl, el⟩
      · simp
      · simp only [Option.getD_some, Option.getD_none] at *
        simp [el, run_sliceBound b3]
    · rcases hl with ⟨rfl, rfl⟩ | ⟨yl, kl, nl, rfl, rfl, el⟩
      · simp only [Option.getD_some, Option.getD_none] at *
        simp [eh, run_sliceBound b2]
      · simp only [Option.getD_some, Option.getD_none] at *
        simp [eh, el, run_sliceBound b2, run_sliceBound b3]
  · rcases hh with ⟨rfl, rfl⟩ | ⟨yh, kh, nh, rfl, rfl, eh⟩
    · simp at b4
    · rcases hl with ⟨rfl, rfl⟩ | ⟨yl, kl, nl, rfl, rfl, el⟩
      · simp only [Option.getD_some, Option.getD_none] at *
        simp [em, eh, run_sliceBound b1, run_sliceBound b2]
      · simp only [Option.getD_some] at *
        simp [em, eh, el, run_sliceBound b1, run_sliceBound b2, run_sliceBound b3]
theorem run_slice_slice {P : Program} {t elem : TypeId} {n len cap : Nat} {a : Option Addr} {lo hi mx : Option Operand} {ρ : Env} {l h m : Nat} (hu : P.underlying t = some (.slice elem)) (hn : tsz P elem = some n)
    (hb : ∀ w, (Instr.sliceBounds true len cap (lo.map ρ) (hi.map ρ) (mx.map ρ)).run P w = .ok (l, h, m) w) (w : World) :
    (Instr.sliceAt t (.slice a len cap) (lo.map ρ) (hi.map ρ) (mx.map ρ)).run P w = .ok (.slice (if m = l then a else a.map (·.add (l * n))) (h - l) (m - l)) w := by
  simp only [Instr.sliceAt, Instr.slice, Sem.run_bind, run_underlying hu, Result.andThen_ok, hb, tsz_run hn, Sem.run_pure]
theorem sliceA_sound {P : Program} {ι : Inj} {t : TypeId} {x : Operand} {lo hi mx : Option Operand} {ρ ρ' : Env} {l h m : Option Nat} {u : Value}
    (hx : VRel ι (ρ x) (ρ' x)) (hl : natOf? (lo.map ρ) = some l) (hh : natOf? (hi.map ρ) = some h) (hm : natOf? (mx.map ρ) = some m)
    (rl : ∀ y, lo = some y → VRel ι (ρ y) (ρ' y)) (rh : ∀ y, hi = some y → VRel ι (ρ y) (ρ' y)) (rm : ∀ y, mx = some y → VRel ι (ρ y) (ρ' y))
    (hs : sliceA P t (ρ x) l h m = some u) :
    ∃ u', VRel ι u u' ∧ ∀ w, (Instr.sliceAt t (ρ' x) (lo.map ρ') (hi.map ρ') (mx.map ρ')).run P w = .ok u' w := by
  have hl' := natOf?_rel hl rl
  have hh' := natOf?_rel hh rh
  have hm' := natOf?_rel hm rm
  unfold sliceA at hs
  split at hs <;> try (cases hs; done)
  rename_i elem hu
  split at hs <;> try (cases hs; done)
  rename_i n hn
  have guard : ∀ {len cap : Nat} {A B : Option Value}, (bif Nat.ble (m.getD cap) cap && Nat.ble (h.getD len) (m.getD cap) && Nat.ble (l.getD 0) (h.getD len) && (m.isNone || h.isSome) then A else none) = some u →
      A = some u ∧ m.getD cap ≤ cap ∧ h.getD len ≤ m.getD cap ∧ l.getD 0 ≤ h.getD len ∧ (m.isNone = true ∨ h.isSome = true) := by
    intro len cap A B hh
    cases hc : (Nat.ble (m.getD cap) cap && Nat.ble (h.getD len) (m.getD cap) && Nat.ble (l.getD 0) (h.getD len) && (m.isNone || h.isSome)) with
    | false => rw [hc] at hh; cases hh
    | true =>
      rw [hc] at hh
      simp only [Bool.and_eq_true, Bool.or_eq_true] at hc
      exact ⟨hh, by simpa using hc.1.1.1, by simpa using hc.1.1.2, by simpa using hc.1.2, hc.2⟩
  split at hs <;> try (cases hs; done)
  · rename_i len cap hvx
    rw [hvx] at hx
    obtain ⟨he, g1, g2, g3, g4⟩ := guard (B := none) hs
    cases he
    cases hvx' : ρ' x <;> rw [hvx'] at hx <;> cases hx
    refine ⟨_, .nilslice _ _, fun w => ?_⟩
    rw [run_slice_slice hu hn (fun w => run_sliceBounds hl' hh' hm' g1 g2 g3 g4) w]
    simp
  · rename_i b o sp len cap hvx
    rw [hvx] at hx
    obtain ⟨he, g1, g2, g3, g4⟩ := guard (B := none) hs
    cases sp with
    | none =>
      simp only [Option.some.injEq] at he
      subst he
      cases hvx' : ρ' x <;> rw [hvx'] at hx <;> cases hx
      rename_i loc hb
      refine ⟨_, .slice _ _ hb, fun w => ?_⟩
      rw [run_slice_slice hu hn (fun w => run_sliceBounds hl' hh' hm' g1 g2 g3 g4) w]
      rw [T.nbeq]
      by_cases hq : m.getD cap = l.getD 0
      · simp [hq]
      · simp [hq, Nat.add_assoc]
    | some es =>
      cases hes : Nat.beq es n with
      | false => simp [hes] at he
      | true =>
        simp only [hes, cond_true] at he
        have hes : es = n := by rw [T.nbeq] at hes; simpa using hes
        subst hes
        cases m with
        | none =>
          simp only [Option.some.injEq, Option.getD_none] at he
          simp only [Option.getD_none] at g2 g1
          subst he
          have run : ∀ (a : Addr) (cap' : Nat), cap ≤ cap' → ∀ w, (Instr.sliceAt t (.slice (some a) len cap') (lo.map ρ') (hi.map ρ') (mx.map ρ')).run P w =
              .ok (.slice (if cap' = l.getD 0 then some a else some (a.add (l.getD 0 * es))) (h.getD len - l.getD 0) (cap' - l.getD 0)) w := by
            intro a cap' hc w
            rw [run_slice_slice hu hn (fun w => run_sliceBounds (m := none) hl' hh' hm' (Nat.le_refl _) (Nat.le_trans g2 hc) g3 (.inl rfl)) w]
            simp
          cases hvx' : ρ' x <;> rw [hvx'] at hx <;> cases hx
          · rename_i cap' loc hb hz hc
            by_cases hq : cap' = l.getD 0
            · have e1 : h.getD len - l.getD 0 = 0 := by omega
              have e2 : cap - l.getD 0 = 0 := by omega
              rw [e1, e2]
              refine ⟨_, .zero ⟨loc.blk, loc.base + o, none⟩ hb, fun w => ?_⟩
              rw [run _ _ hc w, if_pos hq, e1, hq, Nat.sub_self]
            · refine ⟨_, .open_ _ _ (cap' - l.getD 0) hb (by omega) ?_, fun w => ?_⟩
              · have : (cap' - l.getD 0) * es + l.getD 0 * es = cap' * es := by rw [← Nat.add_mul]; congr 1; omega
                omega
              rw [run _ _ hc w, if_neg hq]
              simp [Nat.add_assoc]
          · rename_i loc p hb
            have e0 : l.getD 0 = 0 := by omega
            have e1 : h.getD 0 - l.getD 0 = 0 := by omega
            rw [e1, Nat.zero_sub]
            refine ⟨_, .zero p hb, fun w => ?_⟩
            rw [run _ _ (Nat.le_refl _) w, e0]
            simp; omega
        | some mm =>
          simp only [Option.getD_some] at *
          have run : ∀ (a : Addr) (cap' : Nat), cap ≤ cap' → ∀ w, (Instr.sliceAt t (.slice (some a) len cap') (lo.map ρ') (hi.map ρ') (mx.map ρ')).run P w =
              .ok (.slice (if mm = l.getD 0 then some a else some (a.add (l.getD 0 * es))) (h.getD len - l.getD 0) (mm - l.getD 0)) w := by
            intro a cap' hc w
            rw [run_slice_slice hu hn (fun w => run_sliceBounds (m := some mm) hl' hh' hm' (Nat.le_trans g1 hc) g2 g3 g4) w]
            simp
          by_cases hq : mm = l.getD 0
          · have hq' : Nat.beq mm (l.getD 0) = true := by rw [T.nbeq]; simpa using hq
            rw [hq'] at he
            simp only [cond_true] at he
            have e1 : h.getD len - l.getD 0 = 0 := by omega
            cases hc0 : Nat.beq cap 0 with
            | true =>
              rw [hc0] at he
              simp only [cond_true, Option.some.injEq] at he
              subst he
              cases hvx' : ρ' x <;> rw [hvx'] at hx <;> cases hx
              · rename_i cap' loc hb hz hc
                refine ⟨_, .open_ 0 0 0 hb (Nat.le_refl _) (by omega), fun w => ?_⟩
                rw [run _ _ hc w, if_pos hq, e1, hq, Nat.sub_self]
              · rename_i loc p hb
                refine ⟨_, .zero p hb, fun w => ?_⟩
                rw [run _ _ (Nat.le_refl _) w, if_pos hq, e1, hq, Nat.sub_self]
            | false =>
              rw [hc0] at he
              simp only [cond_false, Option.some.injEq] at he
              subst he
              have hc0 : cap ≠ 0 := by rw [T.nbeq] at hc0; simpa using hc0
              cases hvx' : ρ' x <;> rw [hvx'] at hx <;> cases hx
              · rename_i cap' loc hb hz hc
                refine ⟨_, .slice 0 0 hb, fun w => ?_⟩
                rw [run _ _ hc w, if_pos hq, e1, hq, Nat.sub_self]
              · omega
          · have hq' : Nat.beq mm (l.getD 0) = false := by rw [T.nbeq]; simpa using hq
            rw [hq'] at he
            simp only [cond_false, Option.some.injEq] at he
            subst he
            cases hvx' : ρ' x <;> rw [hvx'] at hx <;> cases hx
            · rename_i cap' loc hb hz hc
              refine ⟨_, .slice _ _ hb, fun w => ?_⟩
              rw [run _ _ hc w, if_neg hq]
              simp [Nat.add_assoc]
            · omega
end
end Go.Idl

/- The ideal machine, part E: operations that only compute, the rest. -/
namespace Go.Idl
open Go
noncomputable section

/-! ### being nil -/
def nilEq (d : TypeDesc) (v u : Value) : Option Bool :=
  match d, v, u with
  | .pointer _, .pointer none, .pointer b => some b.isNone
  | .pointer _, .pointer (some _), .pointer none => some false
  | .slice _, .slice none _ _, .slice b _ _ => some b.isNone
  | .slice _, .slice (some _) _ _, .slice none _ _ => some false
  | .map _ _, .map none, .map b => some b.isNone
  | .map _ _, .map (some _), .map none => some false
  | .func _ _ _, .nilFunc, .nilFunc => some true
  | .func _ _ _, .nilFunc, .func _ _ _ => some false
  | .func _ _ _, .func _ _ _, .nilFunc => some false
  | _, _, _ => none
theorem nilEq_rel {ι : Inj} {d : TypeDesc} {v u v' u' : Value} {b : Bool} (h : nilEq d v u = some b) (hv : VRel ι v v') (hu : VRel ι u u') : nilEq d v' u' = some b := by
  unfold nilEq at h
  split at h <;> try (cases h; done)
  all_goals (cases hv <;> cases hu <;> simp_all [nilEq])
theorem nilEq_run {P : Program} {t : TypeId} {d : TypeDesc} {v u : Value} {b : Bool} (hd : P.underlying t = some d) (h : nilEq d v u = some b) (w : World) :
    (Op.equal t v u).run P w = .ok b w := by
  have hm : Op.maxDepth = 9999 + 1 := rfl
  unfold Op.equal
  rw [hm]
  unfold Op.equalIn
  simp only [Sem.run_bind, run_underlying hd, Result.andThen_ok]
  unfold nilEq at h
  split at h <;> (try (cases h; done)) <;> (cases h) <;> simp
def eqKind (op : BinOp) : Option Bool :=
  match op with
  | .eql => some true
  | .neq => some false
  | _ => none
theorem prun_bind (P : Program) {α β : Type} (s : Sem α) (f : α → Sem β) {a : α} {b : β} (h : prun P s = some a) (h' : prun P (f a) = some b) : prun P (s >>= f) = some b := by
  change prun P (s.bind f) = some b
  induction s with
  | pure x => simp only [prun, Option.some.injEq] at h; subst h; exact h'
  | program k ih => simp only [prun] at h; simp only [Sem.bind, prun]; exact ih P h
  | _ => simp [prun] at h

def gndO : Option Value → Option Value
  | some v => bif gnd1 v then some v else none
  | none => none
theorem gndO_some {o : Option Value} {v : Value} (h : gndO o = some v) : o = some v ∧ gnd1 v = true := by
  cases o with
  | none => simp [gndO] at h
  | some u =>
    simp only [gndO] at h
    cases hg : gnd1 u with
    | false => simp [hg] at h
    | true => simp only [hg, cond_true, Option.some.injEq] at h; subst h; exact ⟨rfl, hg⟩
/-- a binary operation -/
def binA (P : Program) (op : BinOp) (t : TypeId) (x y : Operand) (v u : Value) : Option Value :=
  match v, u with
  | .int k a, .int k' b => gndO (prun P (binOp op t (.int k a) (.int k' b)))
  | v, u =>
    bif gnd v && gnd u then gndO (prun P (do eqGuard op t x y v u; binOp op t v u))
    else
      match eqKind op, P.underlying t with
      | some e, some d =>
        match nilEq d v u with
        | some b => some (.bool (bif e then b else !b))
        | none => none
      | _, _ => none
theorem run_eqGuard_int {P : Program} {op : BinOp} {t : TypeId} {x y : Operand} {k k' : IntKind} {a b : Int} (w : World) :
    (eqGuard op t x y (.int k a) (.int k' b)).run P w = .ok () w := by
  unfold eqGuard
  simp only
  split <;> simp
theorem run_eqGuard_nil {P : Program} {op : BinOp} {t : TypeId} {x y : Operand} {d : TypeDesc} {v u : Value} {b : Bool} (h : nilEq d v u = some b) (w : World) :
    (eqGuard op t x y v u).run P w = .ok () w := by
  unfold nilEq at h
  split at h <;> (try (cases h; done)) <;> (unfold eqGuard; simp only; split <;> simp)
theorem run_binOp_nil {P : Program} {op : BinOp} {t : TypeId} {e b : Bool} {d : TypeDesc} {v u : Value} (he : eqKind op = some e) (hd : P.underlying t = some d)
    (h : nilEq d v u = some b) (w : World) : (binOp op t v u).run P w = .ok (.bool (bif e then b else !b)) w := by
  have hr := nilEq_run hd h w
  cases op <;> simp only [eqKind, Option.some.injEq, reduceCtorEq] at he <;> subst he
  all_goals
    unfold nilEq at h
    split at h <;> (try (cases h; done)) <;> (simp only [binOp, Sem.run_bind, hr, Result.andThen_ok, Sem.run_pure]; rfl)
theorem VRel.refl1 {ι : Inj} {v : Value} (h : Idl.gnd1 v = true) : VRel ι v v := by
  cases v with
  | pointer a => cases a with
    | none => exact .nilptr
    | some a => simp [Idl.gnd1] at h
  | slice a l c => cases a with
    | none => exact .nilslice _ _
    | some a => simp [Idl.gnd1] at h
  | map a => cases a with
    | none => exact .nilmap
    | some a => simp [Idl.gnd1] at h
  | bool b => exact .bool b
  | int k n => exact .int k n
  | string s => exact .string s
  | nilFunc => exact .nilFunc
  | nilIface => exact .nilIface
  | _ => simp [Idl.gnd1] at h
theorem VRel.refl {ι : Inj} {v : Value} (h : Idl.gnd v = true) : VRel ι v v := by
  cases v with
  | agg cs =>
    simp only [Idl.gnd, allA_eq] at h
    refine .agg rfl fun i v v' h1 h2 => ?_
    rw [h1] at h2; cases h2
    obtain ⟨hi, rfl⟩ := Array.getElem?_eq_some_iff.1 h1
    exact .refl1 (Array.all_eq_true.1 h i hi)
  | tuple cs =>
    simp only [Idl.gnd, allA_eq] at h
    refine .tuple rfl fun i v v' h1 h2 => ?_
    rw [h1] at h2; cases h2
    obtain ⟨hi, rfl⟩ := Array.getElem?_eq_some_iff.1 h1
    exact .refl1 (Array.all_eq_true.1 h i hi)
  | _ => exact .refl1 (by simpa [Idl.gnd] using h)

theorem binA_sound {P : Program} {ι : Inj} {op : BinOp} {t : TypeId} {x y : Operand} {v u v' u' r : Value} (hv : VRel ι v v') (hu : VRel ι u u')
    (h : binA P op t x y v u = some r) : ∃ r', VRel ι r r' ∧ ∀ w, (do eqGuard op t x y v' u'; binOp op t v' u' : Sem Value).run P w = .ok r' w := by
  unfold binA at h
  split at h
  · cases hv; cases hu
    obtain ⟨h, hg⟩ := gndO_some h
    refine ⟨r, .refl1 hg, fun w => ?_⟩
    simp only [Sem.run_bind, run_eqGuard_int, Result.andThen_ok]
    exact prun_run P _ h w
  · cases hgd : (gnd v && gnd u) with
    | true =>
      rw [hgd] at h
      simp only [cond_true] at h
      simp only [Bool.and_eq_true] at hgd
      obtain ⟨h, hg⟩ := gndO_some h
      refine ⟨r, .refl1 hg, fun w => ?_⟩
      rw [hv.gnd hgd.1, hu.gnd hgd.2]
      exact prun_run P _ h w
    | false =>
      rw [hgd] at h
      simp only [cond_false] at h
      split at h <;> try (cases h; done)
      rename_i e d he hd
      split at h <;> try (cases h; done)
      rename_i b hb
      cases h
      have hb' := nilEq_rel hb hv hu
      refine ⟨_, .bool _, fun w => ?_⟩
      simp only [Sem.run_bind, run_eqGuard_nil hb', Result.andThen_ok]
      exact run_binOp_nil he hd hb' w
/-! ### parts of a value, and values of parts -/
def nthL {α : Type} (l : List α) (i : Nat) : Option α :=
  List.rec (motive := fun _ => Nat → Option α) (fun _ => none) (fun a _ ih i => bif Nat.beq i 0 then some a else ih (Nat.sub i 1)) l i
theorem nthL_eq {α : Type} : ∀ (l : List α) (i : Nat), nthL l i = l[i]?
  | [], i => by simp [nthL]
  | a :: l, 0 => rfl
  | a :: l, i + 1 => by
    have := nthL_eq l i
    show (bif Nat.beq (i + 1) 0 then some a else nthL l (i + 1 - 1)) = _
    rw [show Nat.beq (i + 1) 0 = false from rfl]
    simpa using this
def partA (P : Program) (t : TypeId) (cs : Array Value) (off : Nat) : Option Value :=
  match aggT P t with
  | some true =>
    match tsz P t with
    | some n => some (.agg (cs.extract off (off + n)))
    | none => none
  | some false => nthL cs.toList off
  | none => none
theorem partA_sound {P : Program} {ι : Inj} {t : TypeId} {cs cs' : Array Value} {off : Nat} {u : Value} (h1 : cs.size = cs'.size)
    (h2 : ∀ (i : Nat) (v v' : Value), cs[i]? = some v → cs'[i]? = some v' → VRel ι v v') (h : partA P t cs off = some u) :
    ∃ u', VRel ι u u' ∧ ∀ w, (part t cs' off).run P w = .ok u' w := by
  unfold partA at h
  split at h <;> try (cases h; done)
  · rename_i ha
    split at h <;> try (cases h; done)
    rename_i n hn
    cases h
    refine ⟨.agg (cs'.extract off (off + n)), .agg (by simp [h1]) fun i v v' g1 g2 => ?_, fun w => ?_⟩
    · rw [Array.getElem?_extract] at g1 g2
      split at g1
      · rename_i hh
        rw [if_pos (by omega)] at g2
        exact h2 _ _ _ g1 g2
      · cases g1
    · simp only [part, Sem.run_bind, aggT_run ha, Result.andThen_ok, tsz_run hn, if_true, Sem.run_pure]
  · rename_i ha
    rw [nthL_eq, Array.getElem?_toList] at h
    have hlt : off < cs.size := (Array.getElem?_eq_some_iff.1 h).1
    have hg : cs'[off]? = some (cs'[off]'(by omega)) := by simp
    refine ⟨_, h2 _ _ _ h hg, fun w => ?_⟩
    simp [part, Sem.run_bind, aggT_run ha, Result.andThen_ok, hg, Sem.run_pure]
def fieldA (P : Program) (t : TypeId) (v : Value) (f : Nat) : Option Value :=
  match P.underlying t with
  | some (.struct fs) =>
    match fs[f]?, v with
    | some fl, .agg cs => partA P fl.type cs fl.offset
    | _, _ => none
  | _ => none
theorem fieldA_sound {P : Program} {ι : Inj} {t : TypeId} {v v' u : Value} {f : Nat} (hv : VRel ι v v') (h : fieldA P t v f = some u) :
    ∃ u', VRel ι u u' ∧ ∀ w, (Instr.field t v' f).run P w = .ok u' w := by
  unfold fieldA at h
  split at h <;> try (cases h; done)
  rename_i fs hu
  split at h <;> try (cases h; done)
  rename_i fl cs hf
  cases hv with
  | agg h1 h2 =>
    obtain ⟨u', r, run⟩ := partA_sound h1 h2 h
    refine ⟨u', r, fun w => ?_⟩
    simp only [Instr.field, Sem.run_bind, run_underlying hu, Result.andThen_ok, hf, asAgg, Sem.run_pure, run]

theorem VRel.cells_size {ι : Inj} {v v' : Value} (h : VRel ι v v') : v'.cells.size = v.cells.size := by
  cases h <;> first | rfl | (simp only [Value.cells]; omega)
theorem VRel.cells {ι : Inj} {v v' : Value} (h : VRel ι v v') : ARel ι v.cells v'.cells := by
  cases h with
  | agg h1 h2 => exact ⟨h1, h2⟩
  | tuple h1 h2 =>
    refine ⟨rfl, fun i v v' g1 g2 => ?_⟩
    simp only [Value.cells] at g1 g2
    cases i with
    | zero => simp at g1 g2; subst g1; subst g2; exact .tuple h1 h2
    | succ i => simp at g1
  | _ =>
    refine ⟨rfl, fun i v v' g1 g2 => ?_⟩
    simp only [Value.cells] at g1 g2
    cases i with
    | zero => simp at g1 g2; subst g1; subst g2; constructor <;> assumption
    | succ i => simp at g1
theorem zipIdx_foldl_rel {ι : Inj} (off : Nat) : ∀ (l l' : List Value) (k : Nat) (cs cs' : Array Value), LRel ι l l' → ARel ι cs cs' →
    ARel ι ((l.zipIdx k).foldl (fun cs (c, j) => cs.setIfInBounds (off + j) c) cs) ((l'.zipIdx k).foldl (fun cs (c, j) => cs.setIfInBounds (off + j) c) cs')
  | [], l', k, cs, cs', h, hc => by
    have : l' = [] := by have := h.1; simp at this; exact List.eq_nil_of_length_eq_zero this.symm
    subst this; exact hc
  | v :: l, l', k, cs, cs', h, hc => by
    cases l' with
    | nil => have := h.1; simp at this
    | cons v' l' =>
      simp only [List.zipIdx_cons, List.foldl_cons]
      refine zipIdx_foldl_rel off l l' (k + 1) _ _ ⟨by have := h.1; simpa using this, fun i a b g1 g2 => h.2 (i + 1) a b (by simpa using g1) (by simpa using g2)⟩ ⟨by simp [hc.1], fun i a b g1 g2 => ?_⟩
      rw [Array.getElem?_setIfInBounds] at g1 g2
      by_cases hi : off + k = i
      · simp only [hi, if_true] at g1 g2
        split at g1 <;> split at g2 <;> (try (cases g1; done)) <;> (try (cases g2; done))
        cases g1; cases g2
        exact h.2 0 _ _ rfl rfl
      · simp only [hi, if_false] at g1 g2
        exact hc.2 i a b g1 g2
theorem fill_rel {ι : Inj} (place : Nat → Option (Nat × Nat)) : ∀ (ps ps' : List (Nat × Value)) (cs cs' r : Array Value), ps.length = ps'.length →
    (∀ (i : Nat) (x y : Nat × Value), ps[i]? = some x → ps'[i]? = some y → x.1 = y.1 ∧ VRel ι x.2 y.2) → ARel ι cs cs' → Instr.fill place cs ps = some r →
    ∃ r', Instr.fill place cs' ps' = some r' ∧ ARel ι r r'
  | [], ps', cs, cs', r, hl, hp, hc, h => by
    have : ps' = [] := by simp at hl; exact List.eq_nil_of_length_eq_zero hl.symm
    subst this
    simp only [Instr.fill, Option.some.injEq] at h
    subst h
    exact ⟨cs', rfl, hc⟩
  | (i, v) :: ps, ps', cs, cs', r, hl, hp, hc, h => by
    cases ps' with
    | nil => simp at hl
    | cons x ps' =>
      obtain ⟨j, v'⟩ := x
      obtain ⟨h0, hv⟩ := hp 0 _ _ rfl rfl
      simp only at h0 hv
      subst h0
      simp only [Instr.fill] at h ⊢
      cases hpl : place i with
      | none => simp [hpl] at h
      | some p =>
        obtain ⟨off, size⟩ := p
        simp only [hpl] at h ⊢
        rw [hv.cells_size]
        have hsz : cs'.size = cs.size := hc.1.symm
        rw [hsz]
        split at h
        · cases h
        · rename_i hg
          rw [if_neg hg]
          refine fill_rel place ps ps' _ _ r (by simpa using hl) (fun i x y g1 g2 => hp (i + 1) x y (by simpa using g1) (by simpa using g2)) ?_ h
          have := zipIdx_foldl_rel (ι := ι) off v.cells.toList v'.cells.toList 0 cs cs' ⟨by simpa using hv.cells.1, fun i a b g1 g2 => hv.cells.2 i a b (by simpa using g1) (by simpa using g2)⟩ hc
          rw [← Array.foldl_toList, ← Array.foldl_toList, Array.toList_zipIdx, Array.toList_zipIdx]
          exact this
def placesA (P : Program) : List Field → Option (List (Nat × Nat))
  | [] => some []
  | f :: fs =>
    match tsz P f.type, placesA P fs with
    | some n, some l => some ((f.offset, n) :: l)
    | _, _ => none
abbrev placeOf (f : Field) : Sem (Nat × Nat) := do pure (f.offset, ← sizeOf f.type)
theorem placesA_run {P : Program} : ∀ (fs : List Field) (l : List (Nat × Nat)) (w : World), placesA P fs = some l → (fs.mapM placeOf).run P w = .ok l w
  | [], l, w, h => by simp only [placesA, Option.some.injEq] at h; subst h; simp
  | f :: fs, l, w, h => by
    simp only [placesA] at h
    split at h <;> try (cases h; done)
    rename_i n m hn hm
    cases h
    have h0 : (placeOf f).run P w = .ok (f.offset, n) w := by simp [placeOf, tsz_run hn]
    rw [List.mapM_cons]
    simp only [Sem.run_bind, h0, Result.andThen_ok, placesA_run fs m w hm, Sem.run_pure]
def zeroA (P : Program) (t : TypeId) : Option (Array Value) :=
  match P.info? t with
  | some i =>
    match i.zero with
    | some z => bif z.cells.all gnd1 then some z.cells else none
    | none => none
  | none => none
theorem zeroA_run {P : Program} {t : TypeId} {z : Array Value} (h : zeroA P t = some z) (ι : Inj) : ARel ι z z ∧ ∃ v, v.cells = z ∧ ∀ w, (zeroValue t).run P w = .ok v w := by
  unfold zeroA at h
  split at h <;> try (cases h; done)
  rename_i i hi
  split at h <;> try (cases h; done)
  rename_i v hv
  cases hg : v.cells.all gnd1 with
  | false => simp [hg] at h
  | true =>
    simp only [hg, cond_true, Option.some.injEq] at h
    subst h
    refine ⟨⟨rfl, fun i a b g1 g2 => ?_⟩, v, rfl, fun w => ?_⟩
    · rw [g1] at g2; cases g2
      obtain ⟨hi, rfl⟩ := Array.getElem?_eq_some_iff.1 g1
      exact .refl1 (Array.all_eq_true.1 hg i hi)
    · simp [zeroValue, run_typeInfo hi, hv]
def buildA (P : Program) (t : TypeId) (parts : List (Nat × Value)) : Option Value :=
  match zeroA P t with
  | none => none
  | some z =>
    match P.underlying t with
    | some (.struct fs) =>
      match placesA P fs.toList with
      | none => none
      | some pl =>
        match Instr.fill (pl.toArray[·]?) z parts with
        | some cs => some (.agg cs)
        | none => none
    | some (.array _ elem) =>
      match tsz P elem with
      | none => none
      | some n =>
        match Instr.fill (fun i => some (i * n, n)) z parts with
        | some cs => some (.agg cs)
        | none => none
    | _ => none
theorem buildA_sound {P : Program} {ι : Inj} {t : TypeId} {ps : List (Nat × Value)} {ps' : Array (Nat × Value)} {u : Value} (hl : ps.length = ps'.toList.length)
    (hp : ∀ (i : Nat) (x y : Nat × Value), ps[i]? = some x → ps'.toList[i]? = some y → x.1 = y.1 ∧ VRel ι x.2 y.2) (h : buildA P t ps = some u) :
    ∃ u', VRel ι u u' ∧ ∀ w, (Instr.build t ps').run P w = .ok u' w := by
  unfold buildA at h
  split at h <;> try (cases h; done)
  rename_i z hz
  obtain ⟨hzr, v, rfl, hrun⟩ := zeroA_run hz ι
  split at h <;> try (cases h; done)
  · rename_i fs hu
    split at h <;> try (cases h; done)
    rename_i pl hpl
    split at h <;> try (cases h; done)
    rename_i cs hcs
    cases h
    obtain ⟨cs', hcs', hr⟩ := fill_rel _ ps ps'.toList _ _ _ hl hp hzr hcs
    refine ⟨.agg cs', .agg hr.1 hr.2, fun w => ?_⟩
    have hm : ∀ w, (fs.mapM (fun f => (do pure (f.offset, ← sizeOf f.type) : Sem (Nat × Nat)))).run P w = .ok pl.toArray w := by
      intro w
      change (fs.mapM placeOf).run P w = _
      rw [Array.mapM_eq_mapM_toList, Sem.run_map, placesA_run fs.toList pl w hpl]; rfl
    simp only [Instr.build, Sem.run_bind, hrun, Result.andThen_ok, run_underlying hu, hm, hcs', Sem.run_pure]
  · rename_i n elem hu
    split at h <;> try (cases h; done)
    rename_i k hk
    split at h <;> try (cases h; done)
    rename_i cs hcs
    cases h
    obtain ⟨cs', hcs', hr⟩ := fill_rel _ ps ps'.toList _ _ _ hl hp hzr hcs
    refine ⟨.agg cs', .agg hr.1 hr.2, fun w => ?_⟩
    simp only [Instr.build, Sem.run_bind, hrun, Result.andThen_ok, run_underlying hu, tsz_run hk, hcs', Sem.run_pure]
end
end Go.Idl

/- The ideal machine, part F: operations that only compute, all of them. -/
namespace Go.Idl
open Go
noncomputable section

def lenA (P : Program) (t : TypeId) (v : Value) : Option Value :=
  match P.underlying t, v with
  | some (.slice _), .slice _ n _ => some (goInt n)
  | some .string, .string s => some (goInt s.size)
  | some (.array n _), _ => some (goInt n)
  | some (.pointer arr), _ =>
    match P.underlying arr with
    | some (.array n _) => some (goInt n)
    | _ => none
  | _, _ => none
theorem lenA_sound {P : Program} {ι : Inj} {t ty : TypeId} {ts : Array TypeId} {xs : Array Value} {v v' u : Value} (ht : ts[0]? = some t) (hx : xs[0]? = some v') (hv : VRel ι v v')
    (h : lenA P t v = some u) : VRel ι u u ∧ ∀ w, (Builtin.len_ ts ty xs).run P w = .ok u w := by
  unfold lenA at h
  split at h <;> try (cases h; done)
  · rename_i e a n c hu
    cases h
    refine ⟨.int _ _, fun w => ?_⟩
    cases hv <;> simp [Builtin.len_, ht, hx, run_underlying hu, goInt]
  · rename_i s hu
    cases h
    refine ⟨.int _ _, fun w => ?_⟩
    cases hv; simp [Builtin.len_, ht, hx, run_underlying hu, goInt]
  · rename_i n e hu
    cases h
    refine ⟨.int _ _, fun w => ?_⟩
    simp [Builtin.len_, ht, hx, run_underlying hu, goInt]
  · rename_i arr hu
    split at h <;> try (cases h; done)
    rename_i n e ha
    cases h
    refine ⟨.int _ _, fun w => ?_⟩
    simp [Builtin.len_, ht, hx, run_underlying hu, run_underlying ha, goInt]
def capA (P : Program) (t : TypeId) (v : Value) : Option Value :=
  match P.underlying t, v with
  | some (.slice _), .slice none _ c => some (goInt c)
  | some (.slice _), .slice (some ⟨_, _, none⟩) _ c => some (goInt c)
  | _, _ => none
theorem capA_sound {P : Program} {ι : Inj} {t ty : TypeId} {ts : Array TypeId} {xs : Array Value} {v v' u : Value} (ht : ts[0]? = some t) (hx : xs[0]? = some v') (hv : VRel ι v v')
    (h : capA P t v = some u) : VRel ι u u ∧ ∀ w, (Builtin.cap_ ts ty xs).run P w = .ok u w := by
  unfold capA at h
  split at h <;> try (cases h; done)
  · rename_i e l c hu
    cases h
    refine ⟨.int _ _, fun w => ?_⟩
    cases hv; simp [Builtin.cap_, ht, hx, run_underlying hu, goInt]
  · rename_i e b o l c hu
    cases h
    refine ⟨.int _ _, fun w => ?_⟩
    cases hv; simp [Builtin.cap_, ht, hx, run_underlying hu, goInt]
/-- the builtins that only compute -/
def builtinA (P : Program) (b : Builtin) (ts : Array TypeId) (args : Array Value) : Option Value :=
  match b with
  | .len =>
    match ts[0]?, args[0]? with
    | some t, some v => lenA P t v
    | _, _ => none
  | .cap =>
    match ts[0]?, args[0]? with
    | some t, some v => capA P t v
    | _, _ => none
  | .min => bif args.all gnd1 then gndO (prun P (Builtin.min_ #[] 0 args)) else none
  | .max => bif args.all gnd1 then gndO (prun P (Builtin.max_ #[] 0 args)) else none
  | _ => none
def plainOp : Op → Bool
  | .unOp .. | .convert .. | .index .. => true
  | _ => false
/-- a cell of an array that is a value, or a string's byte -/
def ixA (P : Program) (t : TypeId) (v ix : Value) : Option Value :=
  match ix with
  | .int _ (.ofNat i) =>
    match P.underlying t with
    | some (.array len elem) =>
      match v with
      | .agg cs =>
        bif Nat.blt i len then
          match tsz P elem with
          | some n => partA P elem cs (i * n)
          | none => none
        else none
      | _ => none
    | some .string =>
      match v with
      | .string s =>
        match s[i]? with
        | some b => some (.int .u8 b.toNat)
        | none => none
      | _ => none
    | _ => none
  | _ => none
theorem ixA_sound {P : Program} {ι : Inj} {t : TypeId} {v v' ix ix' u : Value} (hv : VRel ι v v') (hi : VRel ι ix ix') (h : ixA P t v ix = some u) :
    ∃ u', VRel ι u u' ∧ ∀ w, (Instr.index t v' ix').run P w = .ok u' w := by
  unfold ixA at h
  split at h <;> try (cases h; done)
  rename_i k i
  cases hi
  split at h <;> try (cases h; done)
  · rename_i len elem ht
    split at h <;> try (cases h; done)
    rename_i cs
    cases hv with
    | agg h1 h2 =>
      cases hb : Nat.blt i len with
      | false => rw [hb] at h; simp at h
      | true =>
        rw [hb] at h
        simp only [cond_true] at h
        split at h <;> try (cases h; done)
        rename_i n hn
        obtain ⟨u', g1, g2⟩ := partA_sound h1 h2 h
        refine ⟨u', g1, fun w => ?_⟩
        have hlt : i < len := by rw [nblt] at hb; simpa using hb
        have hc : (0 : Int) ≤ (Int.ofNat i) ∧ (Int.ofNat i) < (len : Int) := ⟨by simp, by simpa using hlt⟩
        simp only [Instr.index, asIntOf, Sem.run_bind, Sem.run_pure, Result.andThen_ok, run_underlying ht, if_pos hc, tsz_run hn]
        exact g2 w
  · rename_i ht
    split at h <;> try (cases h; done)
    rename_i s
    cases hv
    split at h <;> try (cases h; done)
    rename_i b hb
    cases h
    refine ⟨_, .int _ _, fun w => ?_⟩
    have hc : (0 : Int) ≤ (Int.ofNat i) := by simp
    have hb' : (if (0 : Int) ≤ Int.ofNat i then s[(Int.ofNat i).toNat]? else none) = some b := by rw [if_pos hc]; exact hb
    simp only [Instr.index, asIntOf, Sem.run_bind, Sem.run_pure, Result.andThen_ok, run_underlying ht, hb']
/-- an operation that only computes -/
def pA (P : Program) (ρ : Env) (o : Oper) : Option Value :=
  match o.op with
  | .move x => some (ρ x)
  | .assign x => some (ρ x)
  | .binOp op t x y _ => binA P op t x y (ρ x) (ρ y)
  | .extract t i => extractA (ρ t) i
  | .fieldAddr s x f => fieldAddrA P s (ρ x) f
  | .indexAddr t x i => indexAddrA P t (ρ x) (ρ i)
  | .index t x i => ixA P t (ρ x) (ρ i)
  | .nilCheck x => nilCheckA (ρ x)
  | .pick c a b =>
    match ρ c with
    | .bool t => some (bif t then ρ a else ρ b)
    | _ => none
  | .slice t x l h m =>
    match natOf? (l.map ρ), natOf? (h.map ρ), natOf? (m.map ρ) with
    | some l', some h', some m' =>
      match ρ x with
      | .string s => bif (match P.underlying t with | some .string => true | _ => false) && (l.all (gnd ∘ ρ)) && (h.all (gnd ∘ ρ)) && m.isNone then gndO (prun P (Instr.sliceAt t (.string s) (l.map ρ) (h.map ρ) none)) else none
      | v => sliceA P t v l' h' m'
    | _, _, _ => none
  | .field t x f => fieldA P t (ρ x) f
  | .build t ps => buildA P t (ps.toList.map fun p => (p.1, ρ p.2))
  | .makeFunc fn first cap =>
    match fn with
    | .func f => some (.func (.func f) (first.map ρ) (cap.map ρ))
    | _ => none
  | .call c =>
    match c.callee with
    | .builtin b => builtinA P b c.argTypes (c.args.map ρ)
    | _ => none
  | op =>
    bif plainOp op && op.operands.all (fun x => gnd (ρ x)) then
      match prun P (execOp ρ o) with
      | some (.value v) => bif gnd v then some v else none
      | _ => none
    else none

theorem arr_map_rel {ι : Inj} {xs : Array Operand} {ρ ρ' : Env} (h : ∀ x ∈ xs, VRel ι (ρ x) (ρ' x)) : ARel ι (xs.map ρ) (xs.map ρ') := by
  refine ⟨by simp, fun i v v' h1 h2 => ?_⟩
  rw [Array.getElem?_map] at h1 h2
  cases hx : xs[i]? with
  | none => simp [hx] at h1
  | some x =>
    simp only [hx, Option.map_some, Option.some.injEq] at h1 h2
    subst h1; subst h2
    exact h x (Array.mem_of_getElem? hx)
theorem builtinA_sound {P : Program} {ι : Inj} {b : Builtin} {ts : Array TypeId} {ty : TypeId} {cs : Array Bool} {args args' : Array Value} {u : Value} (hr : ARel ι args args')
    (h : builtinA P b ts args = some u) : VRel ι u u ∧ ∀ w, (builtin b ts ty cs args').run P w = .ok (.value u) w := by
  have get0 : ∀ v, args[0]? = some v → ∃ v', args'[0]? = some v' ∧ VRel ι v v' := by
    intro v hv
    have hlt : 0 < args.size := (Array.getElem?_eq_some_iff.1 hv).1
    have hg : args'[0]? = some (args'[0]'(by have := hr.1; omega)) := by simp
    exact ⟨_, hg, hr.2 0 _ _ hv hg⟩
  unfold builtinA at h
  split at h
  · split at h <;> try (cases h; done)
    rename_i t v ht hx
    obtain ⟨v', hx', hv⟩ := get0 v hx
    obtain ⟨h1, h2⟩ := lenA_sound (ty := ty) ht hx' hv h
    exact ⟨h1, fun w => by simp [builtin, h2]⟩
  · split at h <;> try (cases h; done)
    rename_i t v ht hx
    obtain ⟨v', hx', hv⟩ := get0 v hx
    obtain ⟨h1, h2⟩ := capA_sound (ty := ty) ht hx' hv h
    exact ⟨h1, fun w => by simp [builtin, h2]⟩
  · cases hg : args.all gnd1 with
    | false => simp [hg] at h
    | true =>
      simp only [hg, cond_true] at h
      obtain ⟨h, hu⟩ := gndO_some h
      have he := arr_gnd hr.1 hr.2 hg
      refine ⟨.refl1 hu, fun w => ?_⟩
      have := prun_run P _ h w
      simp only [builtin, Sem.run_bind, he]
      simp only [Builtin.min_] at this ⊢
      rw [this]; rfl
  · cases hg : args.all gnd1 with
    | false => simp [hg] at h
    | true =>
      simp only [hg, cond_true] at h
      obtain ⟨h, hu⟩ := gndO_some h
      have he := arr_gnd hr.1 hr.2 hg
      refine ⟨.refl1 hu, fun w => ?_⟩
      have := prun_run P _ h w
      simp only [builtin, Sem.run_bind, he]
      simp only [Builtin.max_] at this ⊢
      rw [this]; rfl
  · cases h

theorem nilCheckA_sound {P : Program} {ι : Inj} {v v' u : Value} (hv : VRel ι v v') (h : nilCheckA v = some u) : ∃ u', VRel ι u u' ∧ u' = v' ∧ (∀ ρ : Env, ∀ x, ρ x = v' → ∀ o : Oper, o.op = .nilCheck x → ∀ w, (execOp ρ o).run P w = .ok (.value v') w) := by
  unfold nilCheckA at h
  split at h <;> try (cases h; done)
  · cases h
    refine ⟨v', hv, rfl, fun ρ x hx o ho w => ?_⟩
    cases hv; simp [execOp, ho, hx]
  · cases h
    refine ⟨v', hv, rfl, fun ρ x hx o ho w => ?_⟩
    cases hv with
    | func hf _ _ _ _ => cases hf; simp [execOp, ho, hx]
  · cases h
    refine ⟨v', hv, rfl, fun ρ x hx o ho w => ?_⟩
    cases hv with
    | func hf _ _ _ _ => cases hf; simp [execOp, ho, hx]

set_option maxHeartbeats 1000000 in
theorem pA_sound {P : Program} {ι : Inj} {ρ ρ' : Env} {o : Oper} {u : Value} (hρ : ERel ι ρ ρ' o.op) (h : pA P ρ o = some u) :
    ∃ u', VRel ι u u' ∧ ∀ w, (execOp ρ' o).run P w = .ok (.value u') w := by
  unfold pA at h
  split at h
  · rename_i x ho
    cases h
    exact ⟨_, hρ x (by simp [ho, Op.operands]), fun w => by simp [execOp, ho]⟩
  · rename_i x ho
    cases h
    exact ⟨_, hρ x (by simp [ho, Op.operands]), fun w => by simp [execOp, ho]⟩
  · rename_i op t x y yt ho
    obtain ⟨r, h1, h2⟩ := binA_sound (hρ x (by simp [ho, Op.operands])) (hρ y (by simp [ho, Op.operands])) h
    refine ⟨r, h1, fun w => ?_⟩
    simp only [execOp, ho, Sem.run_bind] at h2 ⊢
    rw [h2 w]; rfl
  · rename_i t i ho
    obtain ⟨r, h1, h2⟩ := extractA_sound (P := P) (hρ t (by simp [ho, Op.operands])) h
    exact ⟨r, h1, fun w => by simp [execOp, ho, h2]⟩
  · rename_i s x f ho
    obtain ⟨r, h1, h2⟩ := fieldAddrA_sound (hρ x (by simp [ho, Op.operands])) h
    exact ⟨r, h1, fun w => by simp [execOp, ho, h2]⟩
  · rename_i t x i ho
    obtain ⟨r, h1, h2⟩ := indexAddrA_sound (hρ x (by simp [ho, Op.operands])) (hρ i (by simp [ho, Op.operands])) h
    exact ⟨r, h1, fun w => by simp [execOp, ho, h2]⟩
  · rename_i t x i ho
    obtain ⟨r, h1, h2⟩ := ixA_sound (hρ x (by simp [ho, Op.operands])) (hρ i (by simp [ho, Op.operands])) h
    exact ⟨r, h1, fun w => by simp [execOp, ho, h2]⟩
  · rename_i x ho
    obtain ⟨r, h1, rfl, h2⟩ := nilCheckA_sound (P := P) (hρ x (by simp [ho, Op.operands])) h
    exact ⟨_, h1, fun w => h2 ρ' x rfl o ho w⟩
  · rename_i c a b ho
    split at h <;> try (cases h; done)
    rename_i t ht
    cases h
    have hc := hρ c (by simp [ho, Op.operands])
    rw [ht] at hc
    have hc' : ρ' c = .bool t := by cases hcc : ρ' c <;> rw [hcc] at hc <;> cases hc; rfl
    refine ⟨bif t then ρ' a else ρ' b, ?_, fun w => ?_⟩
    · cases t
      · exact hρ b (by simp [ho, Op.operands])
      · exact hρ a (by simp [ho, Op.operands])
    · cases t <;> simp [execOp, ho, hc', asBool]
  · rename_i t x l h' m ho
    split at h <;> try (cases h; done)
    rename_i l' h'' m' hl hh hm
    have rl : ∀ y, l = some y → VRel ι (ρ y) (ρ' y) := fun y hy => hρ y (by simp [ho, Op.operands, hy])
    have rh : ∀ y, h' = some y → VRel ι (ρ y) (ρ' y) := fun y hy => hρ y (by simp [ho, Op.operands, hy])
    have rm : ∀ y, m = some y → VRel ι (ρ y) (ρ' y) := fun y hy => hρ y (by simp [ho, Op.operands, hy])
    split at h
    · rename_i s hs
      cases hg : ((match P.underlying t with | some .string => true | _ => false) && (l.all (gnd ∘ ρ)) && (h'.all (gnd ∘ ρ)) && m.isNone) with
      | false => rw [hg] at h; cases h
      | true =>
        rw [hg] at h
        simp only [cond_true] at h
        obtain ⟨h, hu⟩ := gndO_some h
        simp only [Bool.and_eq_true] at hg
        have hx := hρ x (by simp [ho, Op.operands])
        rw [hs] at hx
        have hx' : ρ' x = .string s := by cases hxx : ρ' x <;> rw [hxx] at hx <;> cases hx; rfl
        have el : l.map ρ' = l.map ρ := by
          cases l with
          | none => rfl
          | some y => have := hg.1.1.2; simp at this; simp [(rl y rfl).gnd this]
        have eh : h'.map ρ' = h'.map ρ := by
          cases h' with
          | none => rfl
          | some y => have := hg.1.2; simp at this; simp [(rh y rfl).gnd this]
        have em : m = none := by simpa using hg.2
        refine ⟨u, .refl1 hu, fun w => ?_⟩
        have := prun_run P _ h w
        simp [execOp, ho, hx', el, eh, em, this]
    · rename_i v hv
      obtain ⟨r, h1, h2⟩ := sliceA_sound (hρ x (by simp [ho, Op.operands])) hl hh hm rl rh rm h
      exact ⟨r, h1, fun w => by simp [execOp, ho, h2]⟩
  · rename_i t x f ho
    obtain ⟨r, h1, h2⟩ := fieldA_sound (hρ x (by simp [ho, Op.operands])) h
    exact ⟨r, h1, fun w => by simp [execOp, ho, h2]⟩
  · rename_i t ps ho
    obtain ⟨r, h1, h2⟩ := buildA_sound (ι := ι) (ps' := ps.map fun p => (p.1, ρ' p.2)) (by simp) (fun i a b g1 g2 => by
      simp only [Array.toList_map, List.getElem?_map] at g1 g2
      cases hp : ps.toList[i]? with
      | none => simp [hp] at g1
      | some p =>
        simp only [hp, Option.map_some, Option.some.injEq] at g1 g2
        subst g1; subst g2
        refine ⟨rfl, hρ p.2 ?_⟩
        simp only [ho, Op.operands, List.mem_toArray, List.mem_map]
        exact ⟨p, List.mem_of_getElem? hp, rfl⟩) h
    exact ⟨r, h1, fun w => by simp [execOp, ho, h2]⟩
  · rename_i fn first cap ho
    split at h <;> try (cases h; done)
    rename_i f
    cases h
    have a1 := arr_map_rel (ι := ι) (xs := first) (ρ := ρ) (ρ' := ρ') fun x hx => hρ x (by simp [ho, Op.operands, hx])
    have a2 := arr_map_rel (ι := ι) (xs := cap) (ρ := ρ) (ρ' := ρ') fun x hx => hρ x (by simp [ho, Op.operands, hx])
    exact ⟨_, .func (.func f) a1.1 a1.2 a2.1 a2.2, fun w => by simp [execOp, ho, Instr.makeFunc]⟩
  · rename_i c ho
    split at h <;> try (cases h; done)
    rename_i b hb
    have a1 := arr_map_rel (ι := ι) (xs := c.args) (ρ := ρ) (ρ' := ρ') fun x hx => hρ x (by simp [ho, Op.operands, Call.operands, hx])
    exact ⟨u, (builtinA_sound (ty := 0) (cs := #[]) a1 h).1, fun w => by simp [execOp, ho, resolve, hb, invoke]; exact (builtinA_sound a1 h).2 w⟩
  · cases hg : (plainOp o.op && o.op.operands.all (fun x => gnd (ρ x))) with
    | false => rw [hg] at h; cases h
    | true =>
      rw [hg] at h
      simp only [cond_true] at h
      split at h <;> try (cases h; done)
      rename_i v hv
      cases hgv : gnd v with
      | false => simp [hgv] at h
      | true =>
        simp only [hgv, cond_true, Option.some.injEq] at h
        subst h
        simp only [Bool.and_eq_true] at hg
        have hs : ∀ cs b, o.op ≠ .select cs b := by
          intro cs b hh
          have := hg.1
          rw [hh] at this; cases this
        have he : execOp ρ' o = execOp ρ o := execOp_congr o hs (fun x hx => by
          have := Array.all_eq_true_iff_forall_mem.1 hg.2 x hx
          exact (hρ x hx).gnd this)
        exact ⟨v, .refl hgv, fun w => by rw [he]; exact prun_run P _ hv w⟩
end
end Go.Idl

/- The ideal machine, part G: operations that read memory, operations that make memory. -/
namespace Go.Idl
open Go
noncomputable section

/-! ## Reading -/
def loadA (P : Program) (σ : Heap) (t : TypeId) (v : Value) : Option Value :=
  match v with
  | .pointer (some ⟨b, o, none⟩) =>
    match aggT P t with
    | some true =>
      match tsz P t with
      | some n =>
        match σ.loadL b o n with
        | some vs => some (.agg vs.toArray)
        | none => none
      | none => none
    | some false => σ.load1 b o
    | none => none
  | _ => none
theorem LRel.arr {ι : Inj} {l : List Value} {a : Array Value} (h : LRel ι l a.toList) : ARel ι l.toArray a :=
  ⟨by simpa using h.1, fun i v v' h1 h2 => h.2 i v v' (by simpa using h1) (by simpa using h2)⟩
theorem loadA_sound {P : Program} {ι : Inj} {σ : Heap} {w : World} (h : Rel ι σ w) {t : TypeId} {v v' u : Value} (hv : VRel ι v v') (hl : loadA P σ t v = some u) :
    ∃ u', VRel ι u u' ∧ (Instr.loadAt t v').run P w = .ok u' w := by
  unfold loadA at hl
  split at hl <;> try (cases hl; done)
  rename_i b o
  cases hv with
  | ptr hb =>
    rename_i l
    split at hl <;> try (cases hl; done)
    · rename_i ha
      split at hl <;> try (cases hl; done)
      rename_i n hn
      split at hl <;> try (cases hl; done)
      rename_i vs hvs
      cases hl
      obtain ⟨c, e, fr, h1, h2, h3⟩ := loadL_rel h hvs hb
      have := h3.arr
      refine ⟨.agg (c.extract (l.base + o) (l.base + o + n)), .agg this.1 this.2, ?_⟩
      simp only [Instr.loadAt, Instr.sureAddr, loadVar, Sem.run_bind, Sem.run_pure, Result.andThen_ok, aggT_run ha, if_true, tsz_run hn, run_loadCells h1 h2]
    · rename_i ha
      obtain ⟨c, e, fr, h1, h2, h3⟩ := load1_rel h hl hb
      refine ⟨_, h3, ?_⟩
      simp only [Instr.loadAt, Instr.sureAddr, loadVar, Sem.run_bind, Sem.run_pure, Result.andThen_ok, aggT_run ha, Bool.false_eq_true, if_false, run_load h1 h2]

/-- the value that a zero is -/
def zeroV (P : Program) (t : TypeId) : Option Value :=
  match P.info? t with
  | some i =>
    match i.zero with
    | some z => bif gnd z then some z else none
    | none => none
  | none => none
theorem zeroV_run {P : Program} {t : TypeId} {z : Value} (h : zeroV P t = some z) (ι : Inj) : VRel ι z z ∧ ∀ w, (zeroValue t).run P w = .ok z w := by
  unfold zeroV at h
  split at h <;> try (cases h; done)
  rename_i i hi
  split at h <;> try (cases h; done)
  rename_i v hv
  cases hg : gnd v with
  | false => simp [hg] at h
  | true =>
    simp only [hg, cond_true, Option.some.injEq] at h
    subst h
    exact ⟨.refl hg, fun w => by simp [zeroValue, run_typeInfo hi, hv]⟩
/-- a key that is a whole number -/
def findI (k : IntKind) (n : Int) : List (Value × Value) → Option (Option Value)
  | [] => some none
  | (.int k' m, v) :: es => bif k == k' then (bif n == m then some (some v) else findI k n es) else none
  | _ => none
theorem findNow_rel {ι : Inj} {k q : IntKind} {n : Int} : ∀ (es : List (Value × Value)) (es' : List MapEntry) (i : Nat) (r : Option Value), EsRel ι es es' → findI k n es = some r →
    ∃ r', Instr.findNow (.int q) (.int k n) es' i = some r' ∧ match r with
      | none => r' = none
      | some v => ∃ j v', r' = some (j, v') ∧ VRel ι v v'
  | [], es', i, r, h, hf => by
    have : es' = [] := by have := h.1; simp at this; exact List.eq_nil_of_length_eq_zero this.symm
    subst this
    simp only [findI, Option.some.injEq] at hf
    subst hf
    exact ⟨none, rfl, rfl⟩
  | (x, v) :: es, es', i, r, h, hf => by
    cases es' with
    | nil => have := h.1; simp at this
    | cons e es' =>
      obtain ⟨hk, hv⟩ := h.2 0 _ _ rfl rfl
      have htail : EsRel ι es es' := ⟨by have := h.1; simpa using this, fun i x y g1 g2 => h.2 (i + 1) x y (by simpa using g1) (by simpa using g2)⟩
      unfold findI at hf
      split at hf
      · rename_i heq; cases heq
      · rename_i k' m v1 es1 heq
        cases heq
        simp only at hk hv
        have hek : e.key = .int k' m := by cases hh : e.key <;> rw [hh] at hk <;> cases hk; rfl
        cases hkk : k == k' with
        | false => rw [hkk] at hf; cases hf
        | true =>
          rw [hkk] at hf
          have hkk' : k = k' := by simpa using hkk
          simp only [cond_true] at hf
          simp only [Instr.findNow, hek, Instr.sameNow, hkk', if_true]
          cases hnm : n == m with
          | true =>
            rw [hnm] at hf
            simp only [cond_true, Option.some.injEq] at hf
            subst hf
            exact ⟨_, rfl, i, _, rfl, hv⟩
          | false =>
            rw [hnm] at hf
            simp only [cond_false] at hf
            subst hkk'
            exact findNow_rel es es' (i + 1) r htail hf
      · cases hf
def mapOf (σ : Heap) (r : Nat) : Option (List (Value × Value)) :=
  match σ.obj r with
  | .map es => some es
  | _ => none
theorem mapOf_eq {σ : Heap} {r : Nat} {es : List (Value × Value)} (h : mapOf σ r = some es) : σ.obj r = .map es := by
  unfold mapOf at h
  split at h
  · cases h; assumption
  · cases h
def lookupA (P : Program) (σ : Heap) (t : TypeId) (m key : Value) (ok : Bool) : Option Value :=
  match P.underlying t with
  | some (.map kt et) =>
    match P.underlying kt, key with
    | some (.int _), .int k n =>
      match (match m with | .map none => some [] | .map (some r) => mapOf σ r | _ => none) with
      | some es =>
        match findI k n es with
        | some (some v) => some (bif ok then .tuple #[v, .bool true] else v)
        | some none =>
          match zeroV P et with
          | some z => some (bif ok then .tuple #[z, .bool false] else z)
          | none => none
        | none => none
      | none => none
    | _, _ => none
  | _ => none
theorem tuple2_rel {ι : Inj} {v v' u u' : Value} (h : VRel ι v v') (g : VRel ι u u') : VRel ι (.tuple #[v, u]) (.tuple #[v', u']) := by
  refine .tuple rfl fun i a b h1 h2 => ?_
  match i with
  | 0 => simp at h1 h2; subst h1; subst h2; exact h
  | 1 => simp at h1 h2; subst h1; subst h2; exact g
  | n + 2 => simp at h1
theorem run_checkKey {P : Program} {kt : TypeId} {q k : IntKind} {n : Int} (hk : P.underlying kt = some (.int q)) (e : Bool) (w : World) :
    (Instr.checkKey e 10000 kt (.int k n)).run P w = .ok () w := by
  have : (10000 : Nat) = 9999 + 1 := rfl
  rw [this]
  unfold Instr.checkKey
  simp [run_underlying hk]
theorem lookupA_sound {P : Program} {ι : Inj} {σ : Heap} {w : World} (h : Rel ι σ w) {t : TypeId} {m m' key key' u : Value} {ok : Bool} (hm : VRel ι m m') (hk : VRel ι key key')
    (hl : lookupA P σ t m key ok = some u) : ∃ u', VRel ι u u' ∧ (Instr.lookup t m' key' ok).run P w = .ok u' w := by
  unfold lookupA at hl
  split at hl <;> try (cases hl; done)
  rename_i kt et hu
  split at hl <;> try (cases hl; done)
  rename_i q k n hq
  cases hk
  split at hl <;> try (cases hl; done)
  rename_i es hes
  have hget : ∃ es' : Array MapEntry, EsRel ι es es'.toList ∧ ((m' = .map none ∧ es' = #[]) ∨ ∃ B clock, m' = .map (some B) ∧ w.heap[B]? = some (.map es' clock)) := by
    split at hes <;> try (cases hes; done)
    · cases hes; cases hm
      exact ⟨#[], ⟨rfl, fun i x y g => by simp at g⟩, .inl ⟨rfl, rfl⟩⟩
    · rename_i r
      cases hm with
      | map hr =>
        have ho := mapOf_eq hes
        obtain ⟨l, hl', hob⟩ := h.at_ r (by rw [ho]; rfl)
        rw [hr] at hl'; cases hl'
        rw [ho] at hob
        obtain ⟨_, es', clock, h1, h2⟩ := hob
        exact ⟨es', h2, .inr ⟨_, clock, rfl, h1⟩⟩
  obtain ⟨es', hrel, hrun⟩ := hget
  have hcases : ∃ r, findI k n es = some r := by
    cases hf : findI k n es with
    | none => simp [hf] at hl
    | some r => exact ⟨r, rfl⟩
  obtain ⟨r, hf⟩ := hcases
  obtain ⟨r', hr', hrr⟩ := findNow_rel (q := q) es es'.toList 0 r hrel hf
  have hrun' : ∀ x ok', (match r' with | some (_, v) => x = v ∧ ok' = true | none => (zeroValue et).run P w = .ok x w ∧ ok' = false) →
      (Instr.lookup t m' (.int k n) ok).run P w = .ok (if ok then .tuple #[x, .bool ok'] else x) w := by
    intro x ok' hx
    unfold Instr.lookup
    simp only [Sem.run_bind, run_underlying hu, Result.andThen_ok]
    rcases hrun with ⟨rfl, rfl⟩ | ⟨B, clock, rfl, hB⟩
    · simp only [Sem.run_bind, Sem.run_pure, run_checkKey hq, Result.andThen_ok, Instr.findKey, run_underlying hq, hr']
      cases r' with
      | none => simp only at hx; simp [hx.1, hx.2]
      | some p => obtain ⟨j, v⟩ := p; simp only at hx; simp [hx.1, hx.2]
    · have hg : (getObj B).run P w = .ok (.map es' clock) w := by simp [getObj, Sem.run, hB]
      simp only [Sem.run_bind, hg, Sem.run_pure, run_checkKey hq, Result.andThen_ok, Instr.findKey, run_underlying hq, hr']
      cases r' with
      | none => simp only at hx; simp [hx.1, hx.2]
      | some p => obtain ⟨j, v⟩ := p; simp only at hx; simp [hx.1, hx.2]
  rw [hf] at hl
  cases r with
  | some v =>
    obtain ⟨j, v', rfl, hv⟩ := hrr
    simp only [Option.some.injEq] at hl
    subst hl
    have hx := hrun' v' true ⟨rfl, rfl⟩
    cases ok with
    | true => exact ⟨_, tuple2_rel hv (.bool true), hx⟩
    | false => exact ⟨_, hv, hx⟩
  | none =>
    simp only at hrr
    subst hrr
    simp only at hl
    split at hl <;> try (cases hl; done)
    rename_i z hz
    obtain ⟨hzr, hzrun⟩ := zeroV_run hz ι
    simp only [Option.some.injEq] at hl
    subst hl
    have hx := hrun' z false ⟨hzrun w, rfl⟩
    cases ok with
    | true => exact ⟨_, tuple2_rel hzr (.bool false), hx⟩
    | false => exact ⟨_, hzr, hx⟩
/-- bytes that stand as numbers -/
def bytesA : List Value → Option (List UInt8)
  | [] => some []
  | .int .u8 n :: l =>
    match bytesA l with
    | some bs => some (UInt8.ofNat n.toNat :: bs)
    | none => none
  | _ => none
def toStrA (P : Program) (σ : Heap) (src dst : TypeId) (v : Value) : Option Value :=
  match P.underlying src, P.underlying dst with
  | some (.slice e), some .string =>
    match P.underlying e with
    | some (.int .u8) =>
      match v with
      | .slice none _ _ => some (.string .empty)
      | .slice (some ⟨b, o, _⟩) len _ =>
        match (bif Nat.beq len 0 then some [] else σ.loadL b o len) with
        | some vs =>
          match bytesA vs with
          | some bs => some (.string ⟨bs.toArray⟩)
          | none => none
        | none => none
      | _ => none
    | _ => none
  | _, _ => none
theorem bytesA_vals (f : Value → ByteArray → Sem (ForInStep ByteArray)) (hf : ∀ n r, f (.int .u8 n) r = pure (.yield (r.push (UInt8.ofNat n.toNat)))) :
    ∀ (vs : List Value) (bs : List UInt8), bytesA vs = some bs → vs.all gnd1 = true ∧
    ∀ (acc : ByteArray) (P : Program) (w : World), (forIn vs acc f).run P w = .ok ⟨acc.data ++ bs.toArray⟩ w
  | [], bs, h => by
    simp only [bytesA, Option.some.injEq] at h; subst h
    exact ⟨rfl, fun acc P w => by simp⟩
  | v :: vs, bs, h => by
    unfold bytesA at h
    split at h
    · rename_i heq; cases heq
    · rename_i n l heq
      cases heq
      split at h <;> try (cases h; done)
      rename_i bs' hb
      cases h
      obtain ⟨h1, h3⟩ := bytesA_vals f hf vs bs' hb
      refine ⟨by simp [gnd1, h1], fun acc P w => ?_⟩
      have := h3 (acc.push (UInt8.ofNat n.toNat)) P w
      simp only [List.forIn_cons, Sem.run_bind, hf, Sem.run_pure, Result.andThen_ok] at this ⊢
      rw [this]
      simp [ByteArray.push]
    · cases h
theorem toStrA_sound {P : Program} {ι : Inj} {σ : Heap} {w : World} (h : Rel ι σ w) {src dst : TypeId} {v v' u : Value} (hv : VRel ι v v')
    (hl : toStrA P σ src dst v = some u) : VRel ι u u ∧ (convert src dst v').run P w = .ok u w := by
  unfold toStrA at hl
  split at hl <;> try (cases hl; done)
  rename_i e hs hd
  split at hl <;> try (cases hl; done)
  rename_i he
  have conv : ∀ a len cap, (convert src dst (.slice a len cap)).run P w = (Conv.bytesToString (.slice a len cap)).run P w := by
    intro a len cap
    simp only [convert, Sem.run_bind, run_underlying hs, run_underlying hd, Result.andThen_ok]
    cases a <;> simp [run_underlying he]
  split at hl <;> try (cases hl; done)
  · cases hl; cases hv
    exact ⟨.string _, by rw [conv]; simp [Conv.bytesToString]⟩
  · rename_i b o sp len cap
    split at hl <;> try (cases hl; done)
    rename_i vs hvs
    split at hl <;> try (cases hl; done)
    rename_i bs hbs
    cases hl
    refine ⟨.string _, ?_⟩
    have h1 := (bytesA_vals (fun v r => match v with | .int .u8 n => pure (.yield (r.push (UInt8.ofNat n.toNat))) | _ => stuck "") (fun _ _ => rfl) vs bs hbs).1
    have fin : ∀ (a : Addr) (cells : Array Value), (loadCells a len).run P w = .ok cells w → cells.toList = vs → ∀ cap', (convert src dst (.slice (some a) len cap')).run P w = .ok (.string ⟨bs.toArray⟩) w := by
      intro a cells hc hcv cap'
      rw [conv]
      simp only [Conv.bytesToString, Sem.run_bind, hc, Result.andThen_ok]
      rw [← Array.forIn_toList, hcv, (bytesA_vals _ (fun n r => rfl) vs bs hbs).2 ByteArray.empty P w]
      simp [ByteArray.empty, ByteArray.emptyWithCapacity]
      rfl
    cases hz : Nat.beq len 0 with
    | true =>
      rw [hz] at hvs
      simp only [cond_true, Option.some.injEq] at hvs
      subst hvs
      have hz : len = 0 := by simpa using hz
      subst hz
      have key : ∀ a, (loadCells a 0).run P w = .ok #[] w := fun a => by simp [loadCells, loadCellsFrom]
      cases hv <;> exact fin _ #[] (key _) rfl _
    | false =>
      rw [hz] at hvs
      simp only [cond_false] at hvs
      have hz : len ≠ 0 := by rw [T.nbeq] at hz; simpa using hz
      have go : ∀ {l : Loc}, ι b = some l → ∃ cells, (loadCells ⟨l.blk, l.base + o, none⟩ len).run P w = .ok cells w ∧ cells.toList = vs := by
        intro l hb
        obtain ⟨c, e, fr, g1, g2, g3⟩ := loadL_rel h hvs hb
        refine ⟨_, run_loadCells g1 g2, ?_⟩
        have := arr_gnd (ι := ι) (a := vs.toArray) (a' := c.extract (l.base + o) (l.base + o + len)) g3.arr.1 g3.arr.2 (by simpa using h1)
        rw [this]
      cases hv with
      | slice len cap hb => obtain ⟨cells, a1, a2⟩ := go hb; exact fin _ cells a1 a2 _
      | open_ len cap cap' hb _ _ => obtain ⟨cells, a1, a2⟩ := go hb; exact fin _ cells a1 a2 _
      | zero p hb => exact absurd rfl hz
/-- an operation that reads memory -/
def rA (P : Program) (ρ : Env) (σ : Heap) (o : Oper) : Option Value :=
  match o.op with
  | .load t a => loadA P σ t (ρ a)
  | .lookup t x i ok => lookupA P σ t (ρ x) (ρ i) ok
  | .convert src dst x => toStrA P σ src dst (ρ x)
  | .call c =>
    match c.callee, c.argTypes[0]?, c.args[0]? with
    | .builtin .len, some t, some x =>
      match P.underlying t, ρ x with
      | some (.map _ _), .map none => some (goInt 0)
      | some (.map _ _), .map (some r) =>
        match mapOf σ r with
        | some es => some (goInt es.length)
        | none => none
      | _, _ => none
    | _, _, _ => none
  | _ => none
theorem rA_sound {P : Program} {ι : Inj} {σ : Heap} {w : World} (h : Rel ι σ w) {ρ ρ' : Env} {o : Oper} {u : Value} (hρ : ERel ι ρ ρ' o.op) (hr : rA P ρ σ o = some u) :
    ∃ u', VRel ι u u' ∧ (execOp ρ' o).run P w = .ok (.value u') w := by
  unfold rA at hr
  split at hr
  · rename_i t a ho
    obtain ⟨u', h1, h2⟩ := loadA_sound h (hρ a (by simp [ho, Op.operands])) hr
    exact ⟨u', h1, by simp [execOp, ho, h2]⟩
  · rename_i t x i ok ho
    obtain ⟨u', h1, h2⟩ := lookupA_sound h (hρ x (by simp [ho, Op.operands])) (hρ i (by simp [ho, Op.operands])) hr
    exact ⟨u', h1, by simp [execOp, ho, h2]⟩
  · rename_i src dst x ho
    obtain ⟨h1, h2⟩ := toStrA_sound h (hρ x (by simp [ho, Op.operands])) hr
    exact ⟨u, h1, by simp [execOp, ho, h2]⟩
  · rename_i c ho
    split at hr <;> try (cases hr; done)
    rename_i t x hc ht hx
    have hxr := hρ x (by simp [ho, Op.operands, Call.operands, Array.mem_of_getElem? hx])
    split at hr <;> try (cases hr; done)
    · rename_i kt et hu hv
      cases hr
      rw [hv] at hxr
      have hx' : ρ' x = .map none := by cases hh : ρ' x <;> rw [hh] at hxr <;> cases hxr; rfl
      exact ⟨_, .int _ _, by simp [execOp, ho, resolve, hc, invoke, builtin, Builtin.len_, ht, hx, run_underlying hu, hx', goInt]⟩
    · rename_i kt et r hu hv
      split at hr <;> try (cases hr; done)
      rename_i es hes
      cases hr
      rw [hv] at hxr
      cases hh : ρ' x <;> rw [hh] at hxr <;> cases hxr
      rename_i l hl
      have hob := mapOf_eq hes
      obtain ⟨l', hl', hob'⟩ := h.at_ r (by rw [hob]; rfl)
      rw [hl] at hl'; cases hl'
      rw [hob] at hob'
      obtain ⟨_, es', clock, g1, g2⟩ := hob'
      refine ⟨_, .int _ _, ?_⟩
      have hlen : es'.size = es.length := by have := g2.1; simpa using this.symm
      simp [execOp, ho, resolve, hc, invoke, builtin, Builtin.len_, ht, hx, run_underlying hu, hh, goInt, getObj, Sem.run, g1, hlen]
  · cases hr
end
end Go.Idl

/- The ideal machine, part H: operations that make memory. -/
namespace Go.Idl
open Go
noncomputable section

/-- what is laid for a new object, wherever it is laid -/
def CRel (ι : Inj) : AObj → Obj → Nat → Prop
  | .row r, .cells c _ fr, z => r.ro = false ∧ unfrozen c.size fr ∧ c.size = z ∧ r.size ≤ c.size ∧
      ∀ i, i < r.size → ∃ v v', r.cells.get i = some v ∧ c[i]? = some v' ∧ VRel ι v v'
  | .map es, .map es' _, _ => EsRel ι es es'.toList
  | _, _, _ => False
theorem CRel.mono {ι ι' : Inj} (h : ι.le ι') {o : AObj} {o' : Obj} {z : Nat} (c : CRel ι o o' z) : CRel ι' o o' z := by
  cases o <;> cases o' <;> first | exact c.elim | skip
  · exact ⟨c.1, c.2.1, c.2.2.1, c.2.2.2.1, fun i hi => let ⟨v, v', a, b, d⟩ := c.2.2.2.2 i hi; ⟨v, v', a, b, d.mono h⟩⟩
  · exact EsRel.mono h c
theorem CRel.at {ι : Inj} {o : AObj} {o' : Obj} {z B : Nat} {w : World} (c : CRel ι o o' z) (h : w.heap[B]? = some o') : ObjAt ι o ⟨B, 0, z, false⟩ w := by
  cases o <;> cases o' <;> first | exact c.elim | skip
  · rename_i r cs e fr
    obtain ⟨h1, h2, h3, h4, h5⟩ := c
    exact ⟨h1.symm, ⟨cs, e, fr, h, fun _ => h2, h3, by simpa using h4, fun i hi => by simpa using h5 i hi⟩⟩
  · exact ⟨rfl, _, _, h, c⟩
def mkRow (vs : List Value) : AObj := .row { size := vs.length, cells := T.ofL .e 0 vs, ro := false, par := none, kid := none }
theorem mkRow_rel {ι : Inj} {vs : List Value} {c : Array Value} {e : TypeId} (h : LRel ι vs c.toList) : CRel ι (mkRow vs) (.cells c e) c.size := by
  refine ⟨rfl, Or.inl rfl, rfl, by have := h.1; simpa using Nat.le_of_eq this, fun i hi => ?_⟩
  have hi : i < vs.length := hi
  have hc : i < c.size := by have := h.1; simp at this; omega
  refine ⟨vs[i], c[i], ?_, by simp [hc], h.2 i _ _ (by simp [hi]) (by simp [hc])⟩
  rw [T.get_ofL, if_pos (by omega)]; simp
def ptrTo (id : Nat) : Value := .pointer (some ⟨id, 0, none⟩)
theorem ptrTo_rel {ι : Inj} {id B z : Nat} (h : ι id = some ⟨B, 0, z, false⟩) : VRel ι (ptrTo id) (ptrTo B) := VRel.ptr (o := 0) h
theorem sliceTo_rel {ι : Inj} {id B z l c : Nat} (h : ι id = some ⟨B, 0, z, false⟩) : VRel ι (.slice (some ⟨id, 0, none⟩) l c) (.slice (some ⟨B, 0, none⟩) l c) := VRel.slice (o := 0) l c h
/-- so many zeros -/
def zerosOf (z : Array Value) (n : Nat) : List Value := (List.range n).map fun i => (z[i % z.size]?).getD undef
theorem zerosOf_arr (z : Array Value) (n : Nat) (hz : 0 < z.size) : ((Array.range n).map (z[· % z.size]!)).toList = zerosOf z n := by
  simp only [Array.toList_map, Array.toList_range, zerosOf]
  apply List.map_congr_left
  intro i _
  have : i % z.size < z.size := Nat.mod_lt _ hz
  simp [this]
theorem zerosOf_rel {ι : Inj} {z : Array Value} (h : ARel ι z z) (n : Nat) : LRel ι (zerosOf z n) (zerosOf z n) := by
  refine ⟨rfl, fun i v v' h1 h2 => ?_⟩
  rw [h1] at h2; cases h2
  simp only [zerosOf, List.getElem?_map] at h1
  cases hr : (List.range n)[i]? with
  | none => simp [hr] at h1
  | some j =>
    simp only [hr, Option.map_some, Option.some.injEq] at h1
    subst h1
    cases hj : z[j % z.size]? with
    | none => exact VRel.undef ι
    | some x => exact h.2 _ _ _ hj hj
theorem wrap64_nat {n : Nat} (h : n ≤ 2 ^ 48) : IntKind.i64.wrap (n : Int) = n := by
  exact IntWalk.i64_in _ (by omega)
def bytesOf? (P : Program) (t : TypeId) : Option Nat :=
  match P.info? t with
  | some i => some i.bytes
  | none => none
theorem bytesOf?_run {P : Program} {t : TypeId} {n : Nat} (h : bytesOf? P t = some n) (w : World) : ∃ i, (typeInfo t).run P w = .ok i w ∧ i.bytes = n := by
  unfold bytesOf? at h
  cases hi : P.info? t with
  | none => simp [hi] at h
  | some i => simp only [hi, Option.some.injEq] at h; exact ⟨i, run_typeInfo hi, h⟩
/-- an operation that makes memory: what is laid, and the value of its place -/
def aA (P : Program) (ρ : Env) (o : Oper) : Option (AObj × (Nat → Value)) :=
  match o.op with
  | .alloc elem =>
    match zeroA P elem with
    | some z => some (mkRow z.toList, ptrTo)
    | none => none
  | .box _ x => some (mkRow (ρ x).cells.toList, ptrTo)
  | .buildSlice t len ps =>
    match P.underlying t with
    | some (.slice elem) =>
      match tsz P elem, zeroA P elem with
      | some (sz + 1), some z =>
        bif Nat.ble (len * (sz + 1)) (2 ^ 24) && Nat.blt 0 z.size then
          match Instr.fill (fun i => some (i * (sz + 1), sz + 1)) (zerosOf z (len * (sz + 1))).toArray (ps.toList.map fun p => (p.1, ρ p.2)) with
          | some cs => some (mkRow cs.toList, fun id => .slice (some ⟨id, 0, none⟩) len len)
          | none => none
        else none
      | _, _ => none
    | _ => none
  | .makeSlice t l c =>
    match P.underlying t, ρ l, ρ c with
    | some (.slice elem), .int _ (.ofNat l'), .int _ (.ofNat c') =>
      match tsz P elem, zeroA P elem, bytesOf? P elem with
      | some (sz + 1), some z, some by_ =>
        bif Nat.ble l' c' && Nat.ble c' (2 ^ 40) && Nat.ble (by_ * c') (2 ^ 48) && Nat.blt 0 z.size then
          some (bif Nat.beq sz 0 && Nat.beq z.size 1 then .row { size := c', cells := T.rep c' ((z[0]?).getD undef), ro := false, par := none, kid := none } else mkRow (zerosOf z (c' * (sz + 1))),
            fun id => .slice (some ⟨id, 0, none⟩) l' c')
        else none
      | _, _, _ => none
    | _, _, _ => none
  | .makeMap t r =>
    match r with
    | none => some (.map [], fun id => .map (some id))
    | some x =>
      match P.underlying t, ρ x with
      | some (.map _ _), .int _ _ => some (.map [], fun id => .map (some id))
      | _, _ => none
  | _ => none
theorem aA_sound {P : Program} {ι : Inj} {ρ ρ' : Env} {o : Oper} {ob : AObj} {mk : Nat → Value} (hρ : ERel ι ρ ρ' o.op) (h : aA P ρ o = some (ob, mk)) :
    ∃ (o' : Obj) (z : Nat) (mk' : Nat → Value), CRel ι ob o' z ∧ (∀ w, (execOp ρ' o).run P w = .ok (.value (mk' w.heap.size)) (w.alloc o')) ∧
      ∀ ι' id B, ι' id = some ⟨B, 0, z, false⟩ → VRel ι' (mk id) (mk' B) := by
  unfold aA at h
  split at h
  · rename_i elem ho
    split at h <;> try (cases h; done)
    rename_i z hz
    cases h
    obtain ⟨hzr, v, hv, hrun⟩ := zeroA_run hz ι
    refine ⟨.cells z elem, z.size, ptrTo, mkRow_rel ⟨rfl, fun i a b h1 h2 => hzr.2 i a b (by simpa using h1) (by simpa using h2)⟩, fun w => ?_, fun ι' id B hb => ptrTo_rel hb⟩
    simp only [execOp, ho, Instr.alloc, Sem.run_bind, hrun, Result.andThen_ok, newVar, newRow, hv, run_newObj, Sem.run_pure]
    rfl
  · rename_i elem x ho
    cases h
    have hx := (hρ x (by simp [ho, Op.operands])).cells
    refine ⟨.cells (ρ' x).cells elem, (ρ' x).cells.size, ptrTo, mkRow_rel ⟨by simpa using hx.1, fun i a b h1 h2 => hx.2 i a b (by simpa using h1) (by simpa using h2)⟩, fun w => ?_, fun ι' id B hb => ptrTo_rel hb⟩
    simp only [execOp, ho, Instr.box, Sem.run_bind, Result.andThen_ok, newVar, newRow, run_newObj, Sem.run_pure]
    rfl
  · rename_i t len ps ho
    split at h <;> try (cases h; done)
    rename_i elem hu
    split at h <;> try (cases h; done)
    rename_i sz z hs hz
    have hs : tsz P elem = some (sz + 1) := hs
    obtain ⟨hzr, v, hv, hrun⟩ := zeroA_run hz ι
    cases hg : (Nat.ble (len * (sz + 1)) (2 ^ 24) && Nat.blt 0 z.size) with
    | false => rw [hg] at h; cases h
    | true =>
      rw [hg] at h
      simp only [cond_true] at h
      simp only [Bool.and_eq_true] at hg
      have g1 : len * (sz + 1) ≤ 2 ^ 24 := by simpa using hg.1
      have g2 : 0 < z.size := by have := hg.2; rw [nblt] at this; simpa using this
      split at h <;> try (cases h; done)
      rename_i cs hcs
      cases h
      have hzz := zerosOf_rel hzr (len * (sz + 1))
      obtain ⟨cs', hcs', hr⟩ := fill_rel (ι := ι) _ _ (ps.toList.map fun p => (p.1, ρ' p.2)) _ (zerosOf z (len * (sz + 1))).toArray _ (by simp) (fun i a b k1 k2 => by
        simp only [List.getElem?_map] at k1 k2
        cases hp : ps.toList[i]? with
        | none => simp [hp] at k1
        | some p =>
          simp only [hp, Option.map_some, Option.some.injEq] at k1 k2
          subst k1; subst k2
          refine ⟨rfl, hρ p.2 ?_⟩
          simp only [ho, Op.operands, List.mem_toArray, List.mem_map]
          exact ⟨p, List.mem_of_getElem? hp, rfl⟩) ⟨rfl, fun i a b k1 k2 => hzz.2 i a b (by simpa using k1) (by simpa using k2)⟩ hcs
      refine ⟨.cells cs' elem, cs'.size, fun B => .slice (some ⟨B, 0, none⟩) len len, mkRow_rel ⟨by simpa using hr.1, fun i a b k1 k2 => hr.2 i a b (by simpa using k1) (by simpa using k2)⟩, fun w => ?_, fun ι' id B hb => sliceTo_rel hb⟩
      have hlist : (ps.map fun p => (p.1, ρ' p.2)).toList = ps.toList.map fun p => (p.1, ρ' p.2) := by simp
      simp only [execOp, ho, Instr.buildSlice, Sem.run_bind, run_underlying hu, Result.andThen_ok, tsz_run hs]
      rw [if_neg (by omega)]
      by_cases h0 : len * (sz + 1) = 0
      · have hc0 : (Array.range (len * (sz + 1))).map ((#[] : Array Value)[· % (#[] : Array Value).size]!) = (zerosOf z (len * (sz + 1))).toArray := by simp [h0, zerosOf]
        rw [if_pos h0]
        simp only [Sem.run_bind, Sem.run_pure, Result.andThen_ok]
        rw [hc0, hlist, hcs']
        simp only [newRow, Sem.run_bind, run_newObj, Result.andThen_ok, Sem.run_pure]
        rfl
      · have hc0 : (Array.range (len * (sz + 1))).map (z[· % z.size]!) = (zerosOf z (len * (sz + 1))).toArray := by rw [← zerosOf_arr z _ g2]
        rw [if_neg h0]
        simp only [Sem.run_bind, hrun, Sem.run_pure, Result.andThen_ok, hv]
        rw [hc0, hlist, hcs']
        simp only [newRow, Sem.run_bind, run_newObj, Result.andThen_ok, Sem.run_pure]
        rfl
  · rename_i t l c ho
    split at h <;> try (cases h; done)
    rename_i elem kl l' kc c' hu hl hc
    split at h <;> try (cases h; done)
    rename_i sz z by_ hs hz hby
    have hs : tsz P elem = some (sz + 1) := hs
    obtain ⟨hzr, v, hv, hrun⟩ := zeroA_run hz ι
    cases hg : (Nat.ble l' c' && Nat.ble c' (2 ^ 40) && Nat.ble (by_ * c') (2 ^ 48) && Nat.blt 0 z.size) with
    | false => rw [hg] at h; cases h
    | true =>
      rw [hg] at h
      simp only [cond_true, Option.some.injEq, Prod.mk.injEq] at h
      obtain ⟨h1, h2⟩ := h
      simp only [Bool.and_eq_true] at hg
      have g1 : l' ≤ c' := by simpa using hg.1.1.1
      have g2 : c' ≤ 2 ^ 40 := by simpa using hg.1.1.2
      have g3 : by_ * c' ≤ 2 ^ 48 := by simpa using hg.1.2
      have g4 : 0 < z.size := by have := hg.2; rw [nblt] at this; simpa using this
      subst h2
      have rl := hρ l (by simp [ho, Op.operands])
      have rc := hρ c (by simp [ho, Op.operands])
      rw [hl] at rl; rw [hc] at rc
      have el : ρ' l = .int kl (l' : Int) := by cases hh : ρ' l <;> rw [hh] at rl <;> cases rl; rfl
      have ec : ρ' c = .int kc (c' : Int) := by cases hh : ρ' c <;> rw [hh] at rc <;> cases rc; rfl
      have hzz := zerosOf_rel hzr (c' * (sz + 1))
      refine ⟨.cells (zerosOf z (c' * (sz + 1))).toArray elem, (zerosOf z (c' * (sz + 1))).length, fun B => .slice (some ⟨B, 0, none⟩) l' c', ?_, fun w => ?_, fun ι' id B hb => sliceTo_rel hb⟩
      · subst h1
        cases hq : (Nat.beq sz 0 && Nat.beq z.size 1) with
        | false =>
          simp only [cond_false]
          have := mkRow_rel (ι := ι) (vs := zerosOf z (c' * (sz + 1))) (c := (zerosOf z (c' * (sz + 1))).toArray) (e := elem) (by simpa using hzz)
          simpa using this
        | true =>
          simp only [cond_true]
          simp only [Bool.and_eq_true] at hq
          have q1 : sz = 0 := by simpa using hq.1
          have q2 : z.size = 1 := by simpa using hq.2
          subst q1
          have hlen : (zerosOf z (c' * (0 + 1))).length = c' := by simp [zerosOf]
          refine ⟨rfl, Or.inl rfl, by simp, by simp only [List.size_toArray]; exact Nat.le_of_eq hlen.symm, fun i hi => ?_⟩
          have hi : i < c' := hi
          have hz0 : z[0]? = some z[0] := by simp [g4]
          refine ⟨z[0], z[0], by rw [T.get_rep, if_pos hi, hz0]; rfl, ?_, hzr.2 0 _ _ hz0 hz0⟩
          have hm : i % z.size = 0 := by rw [q2]; exact Nat.mod_one i
          simp [zerosOf, hi, hm, hz0]
      · have n1 : ¬ ((c' : Int) < 0) := by omega
        have n2 : ¬ ((l' : Int) < 0) := by omega
        have n3 : ¬ ((l' : Int) > (c' : Int)) := by omega
        have n4 : ¬ (((by_ : Nat) : Int) * (c' : Int) > 2 ^ 48) := by
          have : ((by_ * c' : Nat) : Int) ≤ 2 ^ 48 := by exact_mod_cast g3
          push_cast at this
          omega
        obtain ⟨inf, hinf, hbytes⟩ := bytesOf?_run hby w
        have hcond : (((decide ((c' : Int) < 0) || decide ((inf.bytes : Int) * (c' : Int) > 2 ^ 48)) || decide ((l' : Int) < 0) || decide ((l' : Int) > (c' : Int))) = true) = False := by
          rw [hbytes]; simp [n1, n2, n3]; omega
        simp only [execOp, ho, el, ec, Instr.makeSlice, asInt, asIntOf, Sem.run_bind, run_underlying hu, Sem.run_pure, Result.andThen_ok, hinf, wrap64_nat (n := l') (by omega), wrap64_nat (n := c') (by omega)]
        rw [if_neg (by rw [hcond]; exact id)]
        simp only [Sem.run_bind, run_askRoom, Result.andThen_ok, tsz_run hs, Int.toNat_natCast]
        by_cases h0 : c' * (sz + 1) = 0
        · have hc0 : (Array.range (c' * (sz + 1))).map ((#[] : Array Value)[· % (#[] : Array Value).size]!) = (zerosOf z (c' * (sz + 1))).toArray := by simp [h0, zerosOf]
          rw [if_pos h0]
          simp only [Sem.run_bind, Sem.run_pure, Result.andThen_ok, newRow, run_newObj]
          rw [hc0]; rfl
        · have hc0 : (Array.range (c' * (sz + 1))).map (z[· % z.size]!) = (zerosOf z (c' * (sz + 1))).toArray := by rw [← zerosOf_arr z _ g4]
          rw [if_neg h0]
          simp only [Sem.run_bind, hrun, Sem.run_pure, Result.andThen_ok, newRow, run_newObj, hv]
          rw [hc0]; rfl
  · rename_i t r ho
    split at h
    · cases h
      refine ⟨.map #[] 0, 0, fun B => .map (some B), ⟨rfl, fun i x y k1 => by simp at k1⟩, fun w => ?_, fun ι' id B hb => .map hb⟩
      simp only [execOp, ho, Instr.makeMap, Option.map_none, Sem.run_bind, run_newObj, Result.andThen_ok, Sem.run_pure]
      rfl
    · rename_i x
      split at h <;> try (cases h; done)
      rename_i kt et k n hu hx
      cases h
      have rx := hρ x (by simp [ho, Op.operands])
      rw [hx] at rx
      have ex : ρ' x = .int k n := by cases hh : ρ' x <;> rw [hh] at rx <;> cases rx; rfl
      refine ⟨.map #[] 0, 0, fun B => .map (some B), ⟨rfl, fun i x y k1 => by simp at k1⟩, fun w => ?_, fun ι' id B hb => .map hb⟩
      simp only [execOp, ho, Instr.makeMap, Option.map_some, ex, asInt, asIntOf, Sem.run_bind, run_underlying hu, run_newObj, Result.andThen_ok, Sem.run_pure]
      rfl
  · cases h
end
end Go.Idl
