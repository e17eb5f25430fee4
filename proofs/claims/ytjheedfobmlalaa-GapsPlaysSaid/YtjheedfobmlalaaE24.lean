/- Rules for runs of the evaluator: code a step at a time. It bears no condition. -/
import Derived.Test.YtjheedfobmlalaaE23
namespace Go.Proofs.Ytjheedfobmlalaa.E
set_option linter.unusedVariables false
set_option linter.unusedSimpArgs false

section
variable (tab : Nat → Option XFun) (sp : Nat → List AV → AH → Option (AV × AH))
def Ev (f : AV) (args : List AV) (H : AH) (Q : AV → AH → Prop) : Prop := ∃ k v H', exec tab sp k f args H = some (v, H') ∧ Q v H'
def WC (c : XC) (T : Tm) (H : AH) (Q : XExit → Tm → AH → Prop) : Prop := ∃ k e T' H', execC (exec tab sp k) k c T H = some (e, T', H') ∧ Q e T' H'
end

section
variable {tab : Nat → Option XFun} {sp : Nat → List AV → AH → Option (AV × AH)} {T : Tm} {H : AH} {Q : XExit → Tm → AH → Prop}

theorem Ev.mono {f : AV} {args : List AV} {R R' : AV → AH → Prop} (h : Ev tab sp f args H R) (hr : ∀ v H', R v H' → R' v H') : Ev tab sp f args H R' := by
  obtain ⟨k, v, H', h, r⟩ := h; exact ⟨k, v, H', h, hr _ _ r⟩
theorem WC.mono {c : XC} {Q' : XExit → Tm → AH → Prop} (h : WC tab sp c T H Q) (hr : ∀ e T' H', Q e T' H' → Q' e T' H') : WC tab sp c T H Q' := by
  obtain ⟨k, e, T', H', h, r⟩ := h; exact ⟨k, e, T', H', h, hr _ _ _ r⟩

theorem up {k n : Nat} (h : k ≤ n) {c : XC} {r : XExit × Tm × AH} (e : execC (exec tab sp k) k c T H = some r) : execC (exec tab sp n) n c T H = some r := execC_mono (exec_mono h) h c e

/-- What is done behind a part of the code, by its end. -/
def nx (K : Tm → AH → Prop) (Q : XExit → Tm → AH → Prop) : XExit → Tm → AH → Prop
  | .norm, T, H => K T H
  | e, T, H => Q e T H
def bk (id : Nat) (Q : XExit → Tm → AH → Prop) : XExit → Tm → AH → Prop
  | .exit j, T, H => if j = id then Q .norm T H else Q (.exit j) T H
  | e, T, H => Q e T H
def noCall : CallF := fun _ _ _ => none
theorem noCall_le (c : CallF) : CLe noCall c := fun _ _ _ _ h => by simp [noCall] at h
end
end Go.Proofs.Ytjheedfobmlalaa.E
