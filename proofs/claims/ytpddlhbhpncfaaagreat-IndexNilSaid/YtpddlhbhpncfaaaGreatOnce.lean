/- What `(*sync.Once).Do` comes to in this program. The walks of its parts are those of a worked proof of the guide, turned to this program. -/
import Derived.Test.YtpddlhbhpncfaaaGreatTbl
import Derived.Tactics
import Derived.Tactics2
import Derived.Defers
import Derived.Laws.Pointers
import Derived.Laws.LoneSync
import Derived.RegionTactic
import Derived.RegionCalls
import Derived.ChangeAlike
namespace Go.Proofs.YtpddlhbhpncfaaaGreat
open Go
set_option linter.unusedVariables false


set_option maxRecDepth 100000 in
theorem disable (w : World) : (callFunc 205 #[]).run Tryz.prog w = .ok (.value (.tuple #[])) w := run_call_mark0 Tryz.func205 (by kernel_rfl) (by kernel_rfl) (by kernel_rfl) .disable (by kernel_rfl) w
set_option maxRecDepth 100000 in
theorem enable (w : World) : (callFunc 207 #[]).run Tryz.prog w = .ok (.value (.tuple #[])) w := run_call_mark0 Tryz.func207 (by kernel_rfl) (by kernel_rfl) (by kernel_rfl) .enable (by kernel_rfl) w
set_option maxRecDepth 100000 in
theorem acquire (a : Addr) (w : World) : (callFunc 208 #[.pointer (some a)]).run Tryz.prog w = .ok (.value (.tuple #[])) w := run_call_marked Tryz.func208 (by kernel_rfl) (by kernel_rfl) (by kernel_rfl) .acquire (by kernel_rfl) a w
set_option maxRecDepth 100000 in
theorem releaseMerge (a : Addr) (w : World) : (callFunc 210 #[.pointer (some a)]).run Tryz.prog w = .ok (.value (.tuple #[])) w := run_call_marked Tryz.func210 (by kernel_rfl) (by kernel_rfl) (by kernel_rfl) .releaseMerge (by kernel_rfl) a w

set_option maxRecDepth 100000 in
theorem store_deferred (a : Addr) (x : Value) (u : FrameMode) (w : World) (hc : w.cell? a = some x) (hz : w.frozen? a = false) :
    CallsD Tryz.prog 200 #[.pointer (some a), .bool true] u w fun e u' w' => u' = u ∧ (e = .returned (.tuple #[]) ∧ w' = w.drew.setCell a (.int .u32 1)) := by
  have hc' : w.drew.cell? a = some x := by go_simp
  have hz' : w.drew.frozen? a = false := by go_simp
  have hst := run_call_store (P := Tryz.prog) Tryz.func203 (by kernel_rfl) (by kernel_rfl) (by kernel_rfl) (by kernel_rfl) (k := .u32) (y := 1) hc' hz'
  go_enter_d Tryz.func200, Tryz.ntmps200
  go_wp2
  go_region_calls
  all_goals (go_end0; exact ⟨rfl, rfl⟩)

set_option maxRecDepth 100000 in
theorem unlock_deferred (a : Addr) (u : FrameMode) (w : World) (hc : w.cell? a = some (.int .i32 1)) (hz : w.frozen? a = false) :
    CallsD Tryz.prog 199 #[.pointer (some a)] u w fun e u' w' => u' = u ∧ (e = .returned (.tuple #[]) ∧ w' = w.setCell a (.int .i32 0)) := by
  have hd := disable
  have he := enable
  have hr := releaseMerge
  have hadd := run_call_add (P := Tryz.prog) Tryz.func211 (by kernel_rfl) (by kernel_rfl) (by kernel_rfl) .i32 (by kernel_rfl) (y := -1) (s := 0) hc hz (by simp [go_sem]; rfl)
  have hcv := run_convert_to_unsafe (P := Tryz.prog) (src := 237) (dst := 241) Tryz.underlying237 Tryz.underlying241 (by kernel_rfl) hc
  go_enter_d Tryz.func199, Tryz.ntmps199
  go_wp2
  go_end0
  go_wp2
  go_end0
  exact ⟨rfl, rfl⟩

set_option maxRecDepth 100000 in
theorem lock_free (a : Addr) (w : World) (hc : w.cell? a = some (.int .i32 0)) (hz : w.frozen? a = false) :
    Calls Tryz.prog 198 #[.pointer (some a)] w fun e w' => e = .returned (.tuple #[]) ∧ w' = w.setCell a (.int .i32 1) := by
  have hd := disable
  have he := enable
  have ha := acquire
  have hcas := run_call_cas_hit (P := Tryz.prog) Tryz.func206 (by kernel_rfl) (by kernel_rfl) (by kernel_rfl) .i32 (by kernel_rfl) (y := 1) hc hz
  have hc' : (w.setCell a (.int .i32 1)).cell? a = some (.int .i32 1) := World.cell?_setCell_same w a _ hc
  have hcv := run_convert_to_unsafe (P := Tryz.prog) (src := 237) (dst := 241) Tryz.underlying237 Tryz.underlying241 (by kernel_rfl) hc'
  go_enter Tryz.func198, Tryz.ntmps198
  go_wp2
  first | go_end0 | (simp only [Exit.inBlock, Exit.then]; refine bodyPost_ret (results_none rfl _ _ _) rfl ?_) | refine bodyPost_ret (results_none rfl _ _ _) rfl ?_
  go_wp2
  go_end0
  exact ⟨rfl, rfl⟩
set_option maxRecDepth 100000 in
set_option maxHeartbeats 1600000 in
theorem slow_any (b off : Nat) (g : FuncId) (first cap : Array Value) (f' : FuncId) (args' : Array Value) (K : Value → World → Prop) (w : World)
    (h0 : w.cell? ⟨b, off, none⟩ = some (.int .u32 0)) (h1 : w.cell? ⟨b, off + 1, none⟩ = some (.int .i32 0))
    (f0 : w.frozen? ⟨b, off, none⟩ = false) (f1 : w.frozen? ⟨b, off + 1, none⟩ = false)
    (hr : (callFunc g (first ++ cap)).run Tryz.prog (w.setCell ⟨b, off + 1, none⟩ (.int .i32 1)) = .ok (.enter f' args') (w.setCell ⟨b, off + 1, none⟩ (.int .i32 1)))
    (hg : Calls Tryz.prog f' args' (w.setCell ⟨b, off + 1, none⟩ (.int .i32 1)) fun e w2 => ∃ v, e = .returned v ∧ K v w2)
    (hK : ∀ v w2, K v w2 → (∃ d, w2.cell? ⟨b, off, none⟩ = some (.int .u32 d)) ∧ w2.cell? ⟨b, off + 1, none⟩ = some (.int .i32 1) ∧ w2.frozen? ⟨b, off, none⟩ = false ∧ w2.frozen? ⟨b, off + 1, none⟩ = false) :
    Calls Tryz.prog 196 #[.pointer (some ⟨b, off, none⟩), .func (.func g) first cap] w fun e w' => e = .returned (.tuple #[]) ∧
      ∃ v w2, K v w2 ∧ w' = (w2.drew.setCell ⟨b, off, none⟩ (.int .u32 1)).setCell ⟨b, off + 1, none⟩ (.int .i32 0) := by
  have hl := run_call_load (P := Tryz.prog) Tryz.func197 (by kernel_rfl) (by kernel_rfl) (by kernel_rfl) .u32 (by kernel_rfl) (w := w.setCell ⟨b, off + 1, none⟩ (.int .i32 1)) (a := ⟨b, off, none⟩) (x := 0) ((World.cell?_setCell_other _ ⟨b, off + 1, none⟩ ⟨b, off, none⟩ _ (by simp)).trans h0)
  have hnot : ∀ (x : Bool) (w : World), (Op.unary .not (.bool x)).run Tryz.prog w = .ok (.bool (!x)) w := fun _ _ => rfl
  go_enter_defers Tryz.func196, Tryz.ntmps196
  go_wp2_with (go_at_call 198; refine (lock_free ⟨b, off + 1, none⟩ _ (by go_simp) (by go_simp)).mono ?_; rintro e w' ⟨rfl, rfl⟩)
  go_wp2
  refine hg.mono ?_
  rintro e w2 ⟨v, rfl, hv⟩
  obtain ⟨⟨d, k0⟩, k1, k2, k3⟩ := hK v w2 hv
  simp only
  go_wp2
  try go_end0
  try go_wp2
  refine leaves_cons (f := 200) (args := #[.pointer (some ⟨b, off, none⟩), .bool true]) (by simp) (by simp [go_sem]) ?_
  refine (store_deferred ⟨b, off, none⟩ (.int .u32 d) .returning _ ?_ ?_).mono ?_
  · exact k0
  · exact k2
  rintro e u' w'' ⟨rfl, rfl, rfl⟩
  refine leaves_cons (f := 199) (args := #[.pointer (some ⟨b, off + 1, none⟩)]) (by simp [settle]) (by simp [go_sem]) ?_
  refine (unlock_deferred ⟨b, off + 1, none⟩ _ _ ?_ (by simp [k3])).mono ?_
  · refine (World.cell?_setCell_other _ ⟨b, off, none⟩ ⟨b, off + 1, none⟩ _ (by simp)).trans ?_
    rw [World.cell?_drew]
    exact k1
  rintro e u' w'' ⟨rfl, rfl, rfl⟩
  have hx : ∃ v w2', K v w2' ∧ ((w2.drew.setCell ⟨b, off, none⟩ (.int .u32 1)).setCell ⟨b, off + 1, none⟩ (.int .i32 0)) = (w2'.drew.setCell ⟨b, off, none⟩ (.int .u32 1)).setCell ⟨b, off + 1, none⟩ (.int .i32 0) := ⟨v, w2, hv, rfl⟩
  simpa [Leaves, settle, results, Tryz.results196] using hx
set_option maxRecDepth 100000 in
set_option maxHeartbeats 1600000 in
theorem do_any (b off : Nat) (g : FuncId) (first cap : Array Value) (f' : FuncId) (args' : Array Value) (K : Value → World → Prop) (w : World)
    (h0 : w.cell? ⟨b, off, none⟩ = some (.int .u32 0)) (h1 : w.cell? ⟨b, off + 1, none⟩ = some (.int .i32 0))
    (f0 : w.frozen? ⟨b, off, none⟩ = false) (f1 : w.frozen? ⟨b, off + 1, none⟩ = false)
    (hr : (callFunc g (first ++ cap)).run Tryz.prog (w.setCell ⟨b, off + 1, none⟩ (.int .i32 1)) = .ok (.enter f' args') (w.setCell ⟨b, off + 1, none⟩ (.int .i32 1)))
    (hg : Calls Tryz.prog f' args' (w.setCell ⟨b, off + 1, none⟩ (.int .i32 1)) fun e w2 => ∃ v, e = .returned v ∧ K v w2)
    (hK : ∀ v w2, K v w2 → (∃ d, w2.cell? ⟨b, off, none⟩ = some (.int .u32 d)) ∧ w2.cell? ⟨b, off + 1, none⟩ = some (.int .i32 1) ∧ w2.frozen? ⟨b, off, none⟩ = false ∧ w2.frozen? ⟨b, off + 1, none⟩ = false) :
    Calls Tryz.prog 188 #[.pointer (some ⟨b, off, none⟩), .func (.func g) first cap] w fun e w' => e = .returned (.tuple #[]) ∧
      ∃ v w2, K v w2 ∧ w' = (w2.drew.setCell ⟨b, off, none⟩ (.int .u32 1)).setCell ⟨b, off + 1, none⟩ (.int .i32 0) := by
  have hl := run_call_load (P := Tryz.prog) Tryz.func197 (by kernel_rfl) (by kernel_rfl) (by kernel_rfl) .u32 (by kernel_rfl) h0
  have hnot : ∀ (x : Bool) (w : World), (Op.unary .not (.bool x)).run Tryz.prog w = .ok (.bool (!x)) w := fun _ _ => rfl
  go_enter Tryz.func188, Tryz.ntmps188
  go_wp2_with (first | (go_at_call 196; refine (slow_any b off g first cap f' args' K _ h0 h1 f0 f1 hr hg hK).mono ?_; rintro e w' ⟨rfl, hw⟩) | (go_at_call 195; go_in))
  go_end0
  exact ⟨rfl, hw⟩
set_option maxRecDepth 100000 in
theorem do_done (a : Addr) (d : Int) (hd : ¬ d = 0) (fv : Value) (w : World) (h0 : w.cell? a = some (.int .u32 d)) :
    Calls Tryz.prog 188 #[.pointer (some a), fv] w fun e w' => e = .returned (.tuple #[]) ∧ w' = w := by
  have hl := run_call_load (P := Tryz.prog) Tryz.func197 (by kernel_rfl) (by kernel_rfl) (by kernel_rfl) .u32 (by kernel_rfl) h0
  have hnot : ∀ (x : Bool) (w : World), (Op.unary .not (.bool x)).run Tryz.prog w = .ok (.bool (!x)) w := fun _ _ => rfl
  have hd' : (d != 0) = true := by simp [hd]
  go_enter Tryz.func188, Tryz.ntmps188
  go_wp2
  go_end0
  exact ⟨rfl, rfl⟩
theorem isOnce : Idl.IsOnce Tryz.prog 188 where
  first := fun b off g first cap f' args' K w h0 h1 f0 f1 hr hg hK => do_any b off g first cap f' args' K w h0 h1 f0 f1 hr hg hK
  done := fun a d hd fv w h0 => do_done a d hd fv w h0
  enters := by kernel_rfl
theorem sums : ∀ f s, S f = some s → Idl.SummaryOK Tryz.prog f s := Idl.sum_one (Idl.onceDo_ok isOnce)
theorem monos : Idl.SMono S := Idl.mono_one
theorem mixed : Tryz.prog.follows .mixedOrders = true := by kernel_rfl
end Go.Proofs.YtpddlhbhpncfaaaGreat
