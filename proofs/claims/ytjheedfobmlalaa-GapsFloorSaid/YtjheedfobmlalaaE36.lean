/- Loops over functions, and the rounds that these call. It bears no condition. -/
import Derived.Test.YtjheedfobmlalaaE35
namespace Go.Proofs.Ytjheedfobmlalaa.E
set_option linter.unusedVariables false
set_option linter.unusedSimpArgs false
/-- A block that is forgotten. -/
def Drp (H : AH) (n : Nat) (H' : AH) : Prop := H'.next = H.next ∧ H'.get n = none ∧ ∀ m, m ≠ n → H'.get m = H.get m
section
variable {tab : Nat → Option XFun} {sp : Nat → List AV → AH → Option (AV × AH)} {T : Tm} {H : AH} {Q : XExit → Tm → AH → Prop}
theorem C_rangeFn {f : XO} {ps : List Nat} {asg body : XC} {g : Nat} {first cap : List AV} (hf : f.ev T = .fn (.func g) first cap)
    (h : ∀ Tx L H1, TE Tx T → New H L (.loop .ready none ps asg body Tx) H1 → Ev tab sp (.fn (.func g) first cap) [.fn (.yield L) [] []] H1 (fun _ H' => ∃ st pend q a b Ty, H'.get L = some (.loop st pend q a b Ty) ∧ st ≠ .busy ∧ ∀ H2, Drp H' L H2 → Q (pend.getD .norm) T H2)) :
    C tab sp (.rangeFn f ps asg body) T H Q := fun Tx te => by
  obtain ⟨k, v, H', h1, st, pend, q, a, b, Ty, h2, h3, h4⟩ := h Tx H.next (H.alloc (.loop .ready none ps asg body Tx)) te ⟨rfl, rfl, AH.alloc_new _ _, fun m h => by rw [AH.get_alloc, if_neg (Ne.symm h)]⟩
  have hd := h4 (H'.drop H.next) ⟨rfl, by rw [AH.get_drop, if_pos rfl], fun m hm => AH.drop_other _ (Ne.symm hm)⟩
  refine ⟨k, pend.getD .norm, Tx, H'.drop H.next, T, ?_, te, hd⟩
  simp only [execC, te.ev f, hf, h1, h2, if_neg h3]
  cases pend <;> rfl
theorem Ev_yield {L : Nat} {args : List AV} {S : AV → AH → Prop} {pend : Option XExit} {ps : List Nat} {asg body : XC} (hg : H.get L = some (.loop .ready pend ps asg body T)) (hl : ps.length = args.length)
    (h : C tab sp asg (setParams T ps args) H (fun e T1 H1 => e = .norm ∧ ∃ p1 q1 a1 b1 T0, H1.get L = some (.loop .ready p1 q1 a1 b1 T0) ∧ ∀ H2, Wr H1 L (.loop .busy p1 q1 a1 b1 T0) H2 →
      C tab sp body T1 H2 (fun e2 _ H3 => ∃ p2 q2 a2 b2 T2, H3.get L = some (.loop .busy p2 q2 a2 b2 T2) ∧ ∀ H4, Wr H3 L (.loop (if e2 = .norm then .ready else .done) (if e2 = .norm then none else some e2) q2 a2 b2 T2) H4 → S (.b (decide (e2 = .norm))) H4))) :
    Ev tab sp (.fn (.yield L) [] []) args H S := by
  obtain ⟨k, e, T1, H1, T1', h1, t1, rfl, p1, q1, a1, b1, T0, hg1, h⟩ := h _ (TE.refl _)
  obtain ⟨n, e2, T2, H3, T2', h2, t2, p2, q2, a2, b2, T3, hg3, h⟩ := h (H1.set L (.loop .busy p1 q1 a1 b1 T0)) ⟨rfl, AH.set_same _ _ _, fun m hm => AH.set_other _ _ (Ne.symm hm)⟩ T1 t1
  refine ⟨max k n + 1, .b (decide (e2 = .norm)), H3.set L (.loop (if e2 = .norm then .ready else .done) (if e2 = .norm then none else some e2) q2 a2 b2 T3), ?_, h _ ⟨rfl, AH.set_same _ _ _, fun m hm => AH.set_other _ _ (Ne.symm hm)⟩⟩
  simp only [exec, hg, if_pos hl]
  rw [up (Nat.le_max_left k n) h1]
  simp only [hg1]
  rw [up (Nat.le_max_right k n) h2]
  simp only [hg3]
end
end Go.Proofs.Ytjheedfobmlalaa.E
