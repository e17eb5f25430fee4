/- Rules for runs of the evaluator: code a step at a time. It bears no condition. -/
import Derived.Test.YtjheedfobmlalaaE23
namespace Go.Proofs.Ytjheedfobmlalaa.E
set_option linter.unusedVariables false
set_option linter.unusedSimpArgs false

section
variable (tab : Nat → Option XFun) (sp : Nat → List AV → AH → Option (AV × AH))
def Ev (f : AV) (args : List AV) (H : AH) (Q : AV → AH → Prop) : Prop := ∃ k v H', exec tab sp k f args H = some (v, H') ∧ Q v H'
def WC (c : XC) (T : Tm) (H : AH) (Q : XExit → Tm → AH → Prop) : Prop := ∃ k e T' H', execC (exec tab sp k) k c T H = some (e, T', H') ∧ Q e T' H'
def WO (l : List XOper) (T : Tm) (H : AH) (Q : Tm → AH → Prop) : Prop := ∃ k T' H', runOps (exec tab sp k) l T H = some (T', H') ∧ Q T' H'
end

section
variable {tab : Nat → Option XFun} {sp : Nat → List AV → AH → Option (AV × AH)} {T : Tm} {H : AH} {Q : XExit → Tm → AH → Prop}

theorem Ev.mono {f : AV} {args : List AV} {R R' : AV → AH → Prop} (h : Ev tab sp f args H R) (hr : ∀ v H', R v H' → R' v H') : Ev tab sp f args H R' := by
  obtain ⟨k, v, H', h, r⟩ := h; exact ⟨k, v, H', h, hr _ _ r⟩
theorem WC.mono {c : XC} {Q' : XExit → Tm → AH → Prop} (h : WC tab sp c T H Q) (hr : ∀ e T' H', Q e T' H' → Q' e T' H') : WC tab sp c T H Q' := by
  obtain ⟨k, e, T', H', h, r⟩ := h; exact ⟨k, e, T', H', h, hr _ _ _ r⟩

theorem up {k n : Nat} (h : k ≤ n) {c : XC} {r : XExit × Tm × AH} (e : execC (exec tab sp k) k c T H = some r) : execC (exec tab sp n) n c T H = some r := execC_mono (exec_mono h) h c e

theorem WC_skip (h : Q .norm T H) : WC tab sp .skip T H Q := ⟨0, _, _, _, rfl, h⟩
theorem WC_ret (h : Q .ret T H) : WC tab sp .ret T H Q := ⟨0, _, _, _, rfl, h⟩
theorem WC_exit {id : Nat} (h : Q (.exit id) T H) : WC tab sp (.exit id) T H Q := ⟨0, _, _, _, rfl, h⟩
theorem WC_region {l : List XOper} (h : WO tab sp l T H (Q .norm)) : WC tab sp (.region l) T H Q := by
  obtain ⟨k, T', H', h, q⟩ := h
  exact ⟨k, .norm, T', H', by simp only [execC, h]; rfl, q⟩
theorem WC_draw {l : List XOper} {k : Nat} {r : Tm × AH} (h : runDraw (exec tab sp k) H.next l [] T { H with next := H.next + l.length } = some r) (q : Q .norm r.1 r.2) : WC tab sp (.draw l) T H Q :=
  ⟨k, .norm, r.1, r.2, by simp only [execC, h]; rfl, q⟩
/-- What is done behind a part of the code, by its end. -/
def nx (K : Tm → AH → Prop) (Q : XExit → Tm → AH → Prop) : XExit → Tm → AH → Prop
  | .norm, T, H => K T H
  | e, T, H => Q e T H
theorem WC_seq {a b : XC} (h : WC tab sp a T H (nx (fun T H => WC tab sp b T H Q) Q)) : WC tab sp (.seq a b) T H Q := by
  obtain ⟨k, e, T', H', h, q⟩ := h
  cases e with
  | norm =>
    obtain ⟨n, e2, T2, H2, h2, q2⟩ := q
    refine ⟨max k n, e2, T2, H2, ?_, q2⟩
    simp only [execC]
    rw [up (Nat.le_max_left k n) h]
    exact up (Nat.le_max_right k n) h2
  | ret => exact ⟨k, _, _, _, by simp only [execC]; rw [h], q⟩
  | exit id => exact ⟨k, _, _, _, by simp only [execC]; rw [h], q⟩
theorem WC_cond {o : XO} {a b : XC} {x : Bool} (hx : o.ev T = .b x) (h : WC tab sp (if x then a else b) T H Q) : WC tab sp (.cond o a b) T H Q := by
  obtain ⟨k, e, T', H', h, q⟩ := h
  refine ⟨k, e, T', H', ?_, q⟩
  simp only [execC]
  cases x <;> (rw [hx]; exact h)
theorem WC_cond_split {o : XO} {a b : XC} {x : Bool} (hx : o.ev T = .b x) (ht : x = true → WC tab sp a T H Q) (hf : x = false → WC tab sp b T H Q) : WC tab sp (.cond o a b) T H Q := by
  refine WC_cond hx ?_
  cases x
  · exact hf rfl
  · exact ht rfl
def bk (id : Nat) (Q : XExit → Tm → AH → Prop) : XExit → Tm → AH → Prop
  | .exit j, T, H => if j = id then Q .norm T H else Q (.exit j) T H
  | e, T, H => Q e T H
theorem WC_block {id : Nat} {b : XC} (h : WC tab sp b T H (bk id Q)) : WC tab sp (.block id b) T H Q := by
  obtain ⟨k, e, T', H', h, q⟩ := h
  cases e with
  | norm => exact ⟨k, _, _, _, by simp only [execC]; rw [h], q⟩
  | ret => exact ⟨k, _, _, _, by simp only [execC]; rw [h], q⟩
  | exit j =>
    simp only [bk] at q
    by_cases hj : j = id
    · rw [if_pos hj] at q
      exact ⟨k, _, _, _, by simp only [execC]; rw [h]; simp only [if_pos hj], q⟩
    · rw [if_neg hj] at q
      exact ⟨k, _, _, _, by simp only [execC]; rw [h]; simp only [if_neg hj], q⟩
theorem WC_loop {b : XC} (h : WC tab sp b T H (nx (fun T H => WC tab sp (.loop b) T H Q) Q)) : WC tab sp (.loop b) T H Q := by
  obtain ⟨k, e, T', H', h, q⟩ := h
  cases e with
  | norm =>
    obtain ⟨n, e2, T2, H2, h2, q2⟩ := q
    refine ⟨max k n + 1, e2, T2, H2, ?_, q2⟩
    have h1 := up (by omega : k ≤ max k n + 1) h
    simp only [execC, iter, h1]
    simp only [execC] at h2
    exact iter_mono (fun T H r e => up (by omega : n ≤ max k n + 1) e) (by omega : n ≤ max k n) h2
  | ret =>
    have h1 := up (by omega : k ≤ k + 1) h
    exact ⟨k + 1, _, _, _, by simp only [execC, iter, h1], q⟩
  | exit id =>
    have h1 := up (by omega : k ≤ k + 1) h
    exact ⟨k + 1, _, _, _, by simp only [execC, iter, h1], q⟩

theorem WO_nil {R : Tm → AH → Prop} (h : R T H) : WO tab sp [] T H R := ⟨0, T, H, rfl, h⟩
def noCall : CallF := fun _ _ _ => none
theorem noCall_le (c : CallF) : CLe noCall c := fun _ _ _ _ h => by simp [noCall] at h
/-- An operation that calls nothing, or is not wanted. -/
def step1 (o : XOper) (T : Tm) (H : AH) : Option (AV × AH) := if o.wanted T then o.op.run noCall T H else some (und, H)
theorem WO_step {R : Tm → AH → Prop} {o : XOper} {l : List XOper} {v : AV} {H' : AH} (h : step1 o T H = some (v, H')) (k : WO tab sp l (T.put o.dst v) H' R) : WO tab sp (o :: l) T H R := by
  obtain ⟨n, T2, H2, k, r⟩ := k
  refine ⟨n, T2, H2, ?_, r⟩
  simp only [runOps]
  unfold step1 at h
  split at h
  · rename_i hw
    rw [if_pos hw, run_mono (noCall_le _) h]
    exact k
  · rename_i hw
    simp only [Option.some.injEq, Prod.mk.injEq] at h
    obtain ⟨rfl, rfl⟩ := h
    rw [if_neg hw]
    exact k
theorem WO_call {R : Tm → AH → Prop} {o : XOper} {l : List XOper} {f : XO} {args : List XO} (ho : o.op = .call f args) (hw : o.wanted T = true) (h : Ev tab sp (f.ev T) (args.map (·.ev T)) H (fun v H' => WO tab sp l (T.put o.dst v) H' R)) : WO tab sp (o :: l) T H R := by
  obtain ⟨k, v, H', h, n, T2, H2, h2, r⟩ := h
  refine ⟨max k n, T2, H2, ?_, r⟩
  simp only [runOps, if_pos hw, ho, XOp.run]
  rw [exec_mono (Nat.le_max_left k n) _ _ _ _ h]
  exact runOps_mono (exec_mono (Nat.le_max_right k n)) l h2

theorem Ev_fun {g : Nat} {F : XFun} {args : List AV} {R : AV → AH → Prop} (hF : tab g = some F) {first cap : List AV}
    (h : WC tab sp F.body (argsT 0 (first ++ args ++ cap)) H (fun e T' H' => (e = .norm ∨ e = .ret) ∧ ∃ vs, resL T' H' F.results = some vs ∧ R (resV vs) H')) : Ev tab sp (.fn (.func g) first cap) args H R := by
  obtain ⟨k, e, T', H', h, he, vs, hv, r⟩ := h
  refine ⟨k + 1, resV vs, H', ?_, r⟩
  simp only [exec, hF]
  rcases he with rfl | rfl <;> (rw [h]; simp [hv])
theorem Ev_sp {g : Nat} {args : List AV} {R : AV → AH → Prop} (hF : tab g = none) {first cap : List AV} {v : AV} {H' : AH} (hs : sp g (first ++ args ++ cap) H = some (v, H')) (h : R v H') : Ev tab sp (.fn (.func g) first cap) args H R :=
  ⟨1, v, H', by simp only [exec, hF]; exact hs, h⟩

/-- A run that the evaluator carries out by itself. -/
theorem WC_run {c : XC} (k : Nat) {P : XExit → Tm → AH → Bool} (h : (match execC (exec tab sp k) k c T H with | some (e, T', H') => P e T' H' | none => false) = true) (hq : ∀ e T' H', P e T' H' = true → Q e T' H') : WC tab sp c T H Q := by
  split at h
  · rename_i e T' H' he
    exact ⟨k, e, T', H', he, hq _ _ _ h⟩
  · cases h
theorem Ev_run {f : AV} {args : List AV} {R : AV → AH → Prop} (k : Nat) {P : AV → AH → Bool} (h : (match exec tab sp k f args H with | some (v, H') => P v H' | none => false) = true) (hq : ∀ v H', P v H' = true → R v H') : Ev tab sp f args H R := by
  split at h
  · rename_i v H' he
    exact ⟨k, v, H', he, hq _ _ h⟩
  · cases h
end
end Go.Proofs.Ytjheedfobmlalaa.E
