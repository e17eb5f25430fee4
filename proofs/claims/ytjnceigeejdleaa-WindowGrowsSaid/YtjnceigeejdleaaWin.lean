/- Window's grow, halved and its closures: what they do, by hand. -/
import Derived.Test.YtjnceigeejdleaaProg
import Derived.Below
import Derived.Deep.Draws
import Derived.Deep.AppendLies
import Derived.Maps.AppendAt
import Derived.OwnWalk
import Derived.Laws.BytesArg
import Derived.Laws.MakeOwn
import Derived.Laws.OwnMore
import Derived.Deep.OwnRows
import Derived.Tactics
import Derived.Lib.ConvBytes
import Derived.Laws.Slices
import Derived.WalkKit
import Derived.KernelRfl
import Derived.RowKit3
import Derived.Deep.LoopGhost
import Derived.Deep.QuietTactic
import Derived.BigQuiet
import Derived.WideLaws
import Derived.Deep.DeepCutAuto
import Derived.Deep.CutBlock
import Derived.Deep.RegionHeld3
import Derived.Laws.Rows
import Derived.Lib.AppendStr
import Derived.ArgAppend
import Derived.Laws.IdiomCopy
import Derived.OrdersHeld
import Derived.Laws.BitsLemmas
import Derived.RowKit
import Derived.Test.YtjnceigeejdleaaWWords
import Derived.Test.YtjnceigeejdleaaWLast
import Derived.Test.YtjnceigeejdleaaWTab
import Derived.Test.YtjnceigeejdleaaWFour
import Derived.Test.YtjnceigeejdleaaWQPut
import Derived.Test.YtjnceigeejdleaaWApart
import Derived.Test.YtjnceigeejdleaaWArr
import Derived.Test.YtjnceigeejdleaaWZeros
import Derived.Test.YtjnceigeejdleaaWFoot
import Derived.Test.YtjnceigeejdleaaWKept
import Derived.Test.YtjnceigeejdleaaWShare
import Derived.Test.YtjnceigeejdleaaWN
import Derived.Test.YtjnceigeejdleaaWFootNe
import Derived.Test.YtjnceigeejdleaaWAt
import Derived.Test.YtjnceigeejdleaaWEqStruct
import Derived.Test.YtjnceigeejdleaaWRepsOne
import Derived.Test.YtjnceigeejdleaaWInv
import Derived.Test.YtjnceigeejdleaaWInvWords
import Derived.Test.YtjnceigeejdleaaWGuard
import Derived.Test.YtjnceigeejdleaaWNEv
import Derived.Test.YtjnceigeejdleaaWMore
namespace Go.Proofs.Ytjnceigeejdleaa.Win
open Go.RowKit Go.Proofs.YtjnceigeejdleaaW.PrintWords Go.Proofs.YtjnceigeejdleaaW.PrintLast Go.Proofs.YtjnceigeejdleaaW.PrintMore
attribute [local go_sem] max2_int min2_int max_two min_two max_three min_three max_four min_four   -- for this text's walks alone
set_option linter.unusedVariables false
set_option linter.unusedSimpArgs false
theorem max2_mx (k k' : IntKind) (x y : Int) : Builtin.max2 (.int k x) (.int k' y) = pure (.int k (mx x y)) := max2_int k k' x y
theorem min2_mn (k k' : IntKind) (x y : Int) : Builtin.min2 (.int k x) (.int k' y) = pure (.int k (mn x y)) := min2_int k k' x y
section
attribute [-go_sem] max2_int min2_int
attribute [local go_sem] max2_mx min2_mn
abbrev st (a b c d : Int) (e : Bool) (x : Int) : Array Value := #[.int .i64 a, .int .i64 b, .int .i64 c, .int .i64 d, .bool e, .int .u32 x]
set_option maxRecDepth 100000 in
set_option maxHeartbeats 2000000 in
theorem grow_slow (g : Nat) (a b c d x n : Int) (e : Bool) (w : World) (hb : w.heap[g]? = some (.cells (st a b c d e x) 26 (0, 0))) (h : a ≤ b) (e1 : IntKind.i64.wrap (a + mn n d) = a + mn n d) :
    Calls Try.prog 19 #[.pointer (some ⟨g, 0, none⟩), .int .i64 n] w fun e_ w' => e_ = .returned (.tuple #[]) ∧ w'.heap[g]? = some (.cells (st (mn 1073741824 (a + mn n d)) b c d e x) 26 (0, 0)) ∧ (∀ w0 : World, w0.heap.size ≤ g → Below w0.heap.size w0 w → Below w0.heap.size w0 w') ∧ ∀ (k : Nat) (t : TypeId) (cs : Array Value), k ≠ g → w.heap[k]? = some (.cells cs t (0, 0)) → w'.heap[k]? = some (.cells cs t (0, 0)) := by
  have g0 : decide (a ≤ b) = true := decide_eq_true h
  clear h
  have hc0 : w.cell? ⟨g, 0, none⟩ = some (.int .i64 a) := (blk_cell hb 0).trans rfl
  have hc1 : w.cell? ⟨g, 1, none⟩ = some (.int .i64 b) := (blk_cell hb 1).trans rfl
  have hc3 : w.cell? ⟨g, 3, none⟩ = some (.int .i64 d) := (blk_cell hb 3).trans rfl
  have hf0 := blk_frozen hb 0
  have HBk := Aside0.mk hb
  clear hb
  go_enter Try.func19, Try.ntmps19
  go_wp2
  go_region_with fail
  all_goals go_wp2
  all_goals go_region_with fail
  all_goals go_wp2
  all_goals
    first | go_end0 | refine bodyPost_ret (results_none rfl _ _ _) rfl ?_
    refine ⟨rfl, ?_, fun w0 hm hB => ?_, fun k t cs hk h => ?_⟩
    · (with_reducible repeat refine blk_drew ?_); refine blk_put (cs := st a b c d e x) ?_ 0 _ rfl; (with_reducible repeat refine blk_drew ?_); exact HBk.out
    · repeat (with_reducible first | exact hB | apply below_drew1 | refine below_set ?_ hm)
    · repeat (with_reducible first | exact h | refine blk_drew ?_ | refine blk_far ?_ hk _)
set_option maxRecDepth 100000 in
set_option maxHeartbeats 2000000 in
theorem grow_fast (g : Nat) (a b c d x n p : Int) (e : Bool) (w : World) (hb : w.heap[g]? = some (.cells (st a b c d e x) 26 (0, 0))) (h : ¬ a ≤ b) (e1 : IntKind.i64.wrap (c + n) = c + n) (hp : mn 1073741824 (c + n) = p) (hd : ¬ a ≤ p) :
    Calls Try.prog 19 #[.pointer (some ⟨g, 0, none⟩), .int .i64 n] w fun e_ w' => e_ = .returned (.tuple #[]) ∧ w'.heap[g]? = some (.cells (st a b p d e x) 26 (0, 0)) ∧ (∀ w0 : World, w0.heap.size ≤ g → Below w0.heap.size w0 w → Below w0.heap.size w0 w') ∧ ∀ (k : Nat) (t : TypeId) (cs : Array Value), k ≠ g → w.heap[k]? = some (.cells cs t (0, 0)) → w'.heap[k]? = some (.cells cs t (0, 0)) := by
  have g0 : decide (a ≤ b) = false := decide_eq_false h
  have g1 : decide (a ≤ p) = false := decide_eq_false hd
  clear h hd
  have hc0 : w.cell? ⟨g, 0, none⟩ = some (.int .i64 a) := (blk_cell hb 0).trans rfl
  have hc1 : w.cell? ⟨g, 1, none⟩ = some (.int .i64 b) := (blk_cell hb 1).trans rfl
  have hc2 : w.cell? ⟨g, 2, none⟩ = some (.int .i64 c) := (blk_cell hb 2).trans rfl
  have hc3 : w.cell? ⟨g, 3, none⟩ = some (.int .i64 d) := (blk_cell hb 3).trans rfl
  have hf2 := blk_frozen hb 2
  have hf0 := blk_frozen hb 0
  have HBk := Aside0.mk hb
  clear hb
  go_enter Try.func19, Try.ntmps19
  go_wp2
  go_region_with fail
  all_goals go_wp2
  all_goals go_region_with fail
  all_goals go_wp2
  all_goals
    first | go_end0 | refine bodyPost_ret (results_none rfl _ _ _) rfl ?_
    refine ⟨rfl, ?_, fun w0 hm hB => ?_, fun k t cs hk h => ?_⟩
    · (with_reducible repeat refine blk_drew ?_); refine blk_put (cs := st a b c d e x) ?_ 2 _ rfl; (with_reducible repeat refine blk_drew ?_); exact HBk.out
    · repeat (with_reducible first | exact hB | apply below_drew1 | refine below_set ?_ hm)
    · repeat (with_reducible first | exact h | refine blk_drew ?_ | refine blk_far ?_ hk _)
set_option maxRecDepth 100000 in
set_option maxHeartbeats 2000000 in
theorem grow_more (g : Nat) (a b c d x n p : Int) (e : Bool) (w : World) (hb : w.heap[g]? = some (.cells (st a b c d e x) 26 (0, 0))) (h : ¬ a ≤ b) (e1 : IntKind.i64.wrap (c + n) = c + n) (hp : mn 1073741824 (c + n) = p) (hd : a ≤ p) (e2 : IntKind.i64.wrap (p - a) = p - a) (e3 : IntKind.i64.wrap (a + d) = a + d) :
    Calls Try.prog 19 #[.pointer (some ⟨g, 0, none⟩), .int .i64 n] w fun e_ w' => e_ = .returned (.tuple #[]) ∧ w'.heap[g]? = some (.cells (st (mn 1073741824 (a + d)) b (p - a) d e x) 26 (0, 0)) ∧ (∀ w0 : World, w0.heap.size ≤ g → Below w0.heap.size w0 w → Below w0.heap.size w0 w') ∧ ∀ (k : Nat) (t : TypeId) (cs : Array Value), k ≠ g → w.heap[k]? = some (.cells cs t (0, 0)) → w'.heap[k]? = some (.cells cs t (0, 0)) := by
  have g0 : decide (a ≤ b) = false := decide_eq_false h
  have g1 : decide (a ≤ p) = true := decide_eq_true hd
  clear h hd
  have hc0 : w.cell? ⟨g, 0, none⟩ = some (.int .i64 a) := (blk_cell hb 0).trans rfl
  have hc1 : w.cell? ⟨g, 1, none⟩ = some (.int .i64 b) := (blk_cell hb 1).trans rfl
  have hc2 : w.cell? ⟨g, 2, none⟩ = some (.int .i64 c) := (blk_cell hb 2).trans rfl
  have hc3 : w.cell? ⟨g, 3, none⟩ = some (.int .i64 d) := (blk_cell hb 3).trans rfl
  have hf2 := blk_frozen hb 2
  have hf0 := blk_frozen hb 0
  have HBk := Aside0.mk hb
  clear hb
  go_enter Try.func19, Try.ntmps19
  go_wp2
  go_region_with fail
  all_goals go_wp2
  all_goals go_region_with fail
  all_goals go_wp2
  all_goals go_region_with fail
  all_goals go_wp2
  all_goals go_region_with fail
  all_goals go_wp2
  all_goals
    first | go_end0 | refine bodyPost_ret (results_none rfl _ _ _) rfl ?_
    refine ⟨rfl, ?_, fun w0 hm hB => ?_, fun k t cs hk h => ?_⟩
    · (with_reducible repeat refine blk_drew ?_); refine blk_put (cs := st a b (p - a) d e x) ?_ 0 _ rfl; (with_reducible repeat refine blk_drew ?_); refine blk_put (cs := st a b p d e x) ?_ 2 _ rfl; (with_reducible repeat refine blk_drew ?_); refine blk_put (cs := st a b c d e x) ?_ 2 _ rfl; (with_reducible repeat refine blk_drew ?_); exact HBk.out
    · repeat (with_reducible first | exact hB | apply below_drew1 | refine below_set ?_ hm)
    · repeat (with_reducible first | exact h | refine blk_drew ?_ | refine blk_far ?_ hk _)
set_option maxRecDepth 100000 in
set_option maxHeartbeats 2000000 in
theorem halved_made (a b c d x t : Int) (e : Bool) (w : World) (e1 : IntKind.i64.wrap (4 * d) = 4 * d) (ht : mn 1073741824 (mx (a / 2) (4 * d)) = t) (ha : 0 ≤ a) (ha2 : a < 2147483648) :
    Calls Try.prog 20 #[.agg (st a b c d e x)] w fun e_ w' => e_ = .returned (.func (.func 24) #[] #[.pointer (some ⟨w.heap.size + 1, 0, none⟩), .pointer (some ⟨w.heap.size, 0, none⟩)]) ∧ (w.alloc (.cells (st a b c d e x) 26)).alloc (.cells #[.int .i64 t] 3) = w' := by
  have hmf : ∀ (fn : Fn) (first cap : Array Value) (w : World), (Instr.makeFunc fn first cap).run Try.prog w = .ok (.func fn first cap) w := fun _ _ _ _ => rfl
  go_enter Try.func20, Try.ntmps20
  go_wp2
  go_ret
  exact ⟨rfl, rfl⟩
set_option maxRecDepth 100000 in
set_option maxHeartbeats 2000000 in
theorem lost1 (t : Int) (w : World) :
    Calls Try.prog 21 #[.int .i64 t] w fun e_ w' => e_ = .returned (.int .i64 t) ∧ w = w' := by
  go_enter Try.func21, Try.ntmps21
  go_wp2
  go_ret
  exact ⟨rfl, rfl⟩
set_option maxRecDepth 100000 in
set_option maxHeartbeats 2000000 in
theorem timeout1 (g3 : Nat) (t d : Int) (w : World) (hc3 : w.cell? ⟨g3, 3, none⟩ = some (.int .i64 d)) :
    Calls Try.prog 22 #[.int .i64 t, .pointer (some ⟨g3, 0, none⟩)] w fun e_ w' => e_ = .returned (.int .i64 d) ∧ w = w' := by
  go_enter Try.func22, Try.ntmps22
  go_wp2
  go_ret
  exact ⟨rfl, rfl⟩
set_option maxRecDepth 100000 in
set_option maxHeartbeats 2000000 in
theorem halved_lost (g1 g2 : Nat) (a b c d x t : Int) (e : Bool) (w : World) (h1 : w.heap[g1]? = some (.cells (st a b c d e x) 26 (0, 0))) (h2 : w.heap[g2]? = some (.cells #[.int .i64 t] 3 (0, 0))) :
    Calls Try.prog 24 #[.func (.func 21) #[] #[], .pointer (some ⟨g2, 0, none⟩), .pointer (some ⟨g1, 0, none⟩)] w fun e_ w' => e_ = .returned (.agg (st t t 0 d false 0)) ∧ Below w.heap.size w w' := by
  have hc0 : w.cell? ⟨g2, 0, none⟩ = some (.int .i64 t) := (blk_cell h2 0).trans rfl
  have hc1 : w.cell? ⟨g1, 3, none⟩ = some (.int .i64 d) := (blk_cell h1 3).trans rfl
  clear h1 h2
  go_enter Try.func24, Try.ntmps24
  go_wp2
  go_region_held3 (fun w' => w'.cell? ⟨g2, 0, none⟩ = some (.int .i64 t) ∧ w'.cell? ⟨g1, 3, none⟩ = some (.int .i64 d))
    (first | (refine ⟨?_, ?_, ?_⟩ <;> (go_simp; done)) | (refine ⟨?_, ?_⟩ <;> (go_simp; done)) | go_keep)
    (first | (go_at_call 21; refine (lost1 _ _).mono ?_; rintro e_ w' ⟨rfl, rfl⟩))
  all_goals
    go_wp2
    refine bodyPost_ret (v := .agg (st t t 0 d false 0)) (by simp [results, Try.results24, go_sem]) rfl ⟨rfl, ?_⟩
    repeat (with_reducible first | exact Below.refl _ _ | apply below_alloc | apply pw_below_drewN | apply below_drew1 | refine below_set ?_ (by omega))
set_option maxRecDepth 100000 in
set_option maxHeartbeats 2000000 in
theorem halved_timeout (g1 g2 g3 : Nat) (a b c d x t : Int) (e : Bool) (w : World) (h1 : w.heap[g1]? = some (.cells (st a b c d e x) 26 (0, 0))) (h2 : w.heap[g2]? = some (.cells #[.int .i64 t] 3 (0, 0))) (h3 : w.heap[g3]? = some (.cells (st a b c d e x) 26 (0, 0))) :
    Calls Try.prog 24 #[.func (.func 22) #[] #[.pointer (some ⟨g3, 0, none⟩)], .pointer (some ⟨g2, 0, none⟩), .pointer (some ⟨g1, 0, none⟩)] w fun e_ w' => e_ = .returned (.agg (st d t 0 d false 0)) ∧ Below w.heap.size w w' := by
  have hc0 : w.cell? ⟨g2, 0, none⟩ = some (.int .i64 t) := (blk_cell h2 0).trans rfl
  have hc1 : w.cell? ⟨g1, 3, none⟩ = some (.int .i64 d) := (blk_cell h1 3).trans rfl
  have hc3 : w.cell? ⟨g3, 3, none⟩ = some (.int .i64 d) := (blk_cell h3 3).trans rfl
  clear h1 h2 h3
  go_enter Try.func24, Try.ntmps24
  go_wp2
  go_region_held3 (fun w' => w'.cell? ⟨g2, 0, none⟩ = some (.int .i64 t) ∧ w'.cell? ⟨g1, 3, none⟩ = some (.int .i64 d) ∧ w'.cell? ⟨g3, 3, none⟩ = some (.int .i64 d))
    (first | (refine ⟨?_, ?_, ?_⟩ <;> (go_simp; done)) | (refine ⟨?_, ?_⟩ <;> (go_simp; done)) | go_keep)
    (first | (go_at_call 22; refine (timeout1 g3 _ d _ ?h1).mono ?_; (case h1 => (go_simp; done)); rintro e_ w' ⟨rfl, rfl⟩))
  all_goals
    go_wp2
    refine bodyPost_ret (v := .agg (st d t 0 d false 0)) (by simp [results, Try.results24, go_sem]) rfl ⟨rfl, ?_⟩
    repeat (with_reducible first | exact Below.refl _ _ | apply below_alloc | apply pw_below_drewN | apply below_drew1 | refine below_set ?_ (by omega))
set_option maxRecDepth 100000 in
set_option maxHeartbeats 2000000 in
theorem halved_made2 (a b c d x t : Int) (e : Bool) (w : World) (e1 : IntKind.i64.wrap (4 * d) = 4 * d) (ht : mn 1073741824 (mx (a / 2) (4 * d)) = t) (ha : 0 ≤ a) (ha2 : a < 2147483648) :
    Calls Try.prog 20 #[.agg (st a b c d e x)] w fun e_ w' => ∃ g1 g2, e_ = .returned (.func (.func 24) #[] #[.pointer (some ⟨g2, 0, none⟩), .pointer (some ⟨g1, 0, none⟩)]) ∧ w'.heap[g1]? = some (.cells (st a b c d e x) 26 (0, 0)) ∧ w'.heap[g2]? = some (.cells #[.int .i64 t] 3 (0, 0)) ∧ Below w.heap.size w w' := by
  refine (halved_made a b c d x t e w e1 ht ha ha2).mono ?_
  rintro e_ w' ⟨rfl, rfl⟩
  have hs : (w.alloc (.cells (st a b c d e x) 26 (0, 0))).heap.size = w.heap.size + 1 := by exact Array.size_push _
  refine ⟨w.heap.size, w.heap.size + 1, rfl, blk_alloc (blk_new w _) _, ?_, below_alloc (below_alloc (Below.refl _ _) _) _⟩
  rw [← hs]; exact blk_new _ _
end
end Go.Proofs.Ytjnceigeejdleaa.Win
