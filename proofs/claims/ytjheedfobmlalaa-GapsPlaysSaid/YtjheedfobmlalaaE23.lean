/- Rules for runs of the evaluator: more fuel does no harm; code a step at a time. It bears no condition. -/
import Derived.Test.YtjheedfobmlalaaE22
namespace Go.Proofs.Ytjheedfobmlalaa.E
set_option linter.unusedVariables false
set_option linter.unusedSimpArgs false

section
/-- One evaluator of calls tells no less than another. -/
def CLe (c d : CallF) : Prop := ∀ f a H r, c f a H = some r → d f a H = some r
theorem CLe.refl (c : CallF) : CLe c c := fun _ _ _ _ h => h
variable {c d : CallF}

theorem run_mono (h : CLe c d) {o : XOp} {T : Tm} {H : AH} {r : AV × AH} (e : o.run c T H = some r) : o.run d T H = some r := by
  cases o <;> first | exact e | exact h _ _ _ _ e

theorem runOps_mono (h : CLe c d) : ∀ (l : List XOper) {T : Tm} {H : AH} {r : Tm × AH}, runOps c l T H = some r → runOps d l T H = some r
  | [], _, _, _, e => e
  | o :: l, T, H, r, e => by
    simp only [runOps] at e ⊢
    split at e
    · rename_i hw
      rw [if_pos hw]
      split at e
      · rename_i v H' hr
        rw [run_mono h hr]
        exact runOps_mono h l e
      · cases e
    · rename_i hw
      rw [if_neg hw]
      exact runOps_mono h l e

theorem runDraw_mono (h : CLe c d) {b : Nat} : ∀ (l : List XOper) {W : List Watch} {T : Tm} {H : AH} {r : Tm × AH}, runDraw c b l W T H = some r → runDraw d b l W T H = some r
  | [], _, _, _, _, e => e
  | o :: l, W, T, H, r, e => by
    simp only [runDraw] at e ⊢
    split at e
    · rename_i hw
      rw [if_pos hw]
      split at e
      · rename_i hm
        rw [if_pos hm]
        split at e
        · rename_i f hf
          split at e
          · rename_i hok
            simp only [if_pos hok]
            exact runDraw_mono h l e
          · cases e
        · cases e
      · rename_i hm
        rw [if_neg hm]
        split at e
        · rename_i v H' hr
          rw [run_mono h hr]
          simp only
          split at e
          · rename_i hf
            rw [if_pos hf]
            split at e
            · rename_i hok
              rw [if_pos hok]
              exact runDraw_mono h l e
            · cases e
          · rename_i hf
            rw [if_neg hf]
            exact runDraw_mono h l e
        · cases e
    · rename_i hw
      rw [if_neg hw]
      exact runDraw_mono h l e

theorem iter_mono {f g : Tm → AH → Option (XExit × Tm × AH)} (h : ∀ T H r, f T H = some r → g T H = some r) : ∀ {m n : Nat}, m ≤ n → ∀ {T : Tm} {H : AH} {r : XExit × Tm × AH}, iter m f T H = some r → iter n g T H = some r
  | 0, _, _, _, _, _, e => by simp [iter] at e
  | m + 1, 0, hmn, _, _, _, _ => by omega
  | m + 1, n + 1, hmn, T, H, r, e => by
    simp only [iter] at e ⊢
    split at e
    · cases e
    · rename_i T' H' h1
      rw [h _ _ _ h1]
      exact iter_mono h (by omega) e
    · rename_i r' hne h1
      rw [h _ _ _ h1]
      simp only [Option.some.injEq] at e; subst e
      obtain ⟨x, T', H'⟩ := r'
      cases x with
      | norm => exact absurd rfl (hne _ _)
      | ret => rfl
      | exit id => rfl

theorem execC_mono (h : CLe c d) {m n : Nat} (hmn : m ≤ n) : ∀ (x : XC) {T : Tm} {H : AH} {r : XExit × Tm × AH}, execC c m x T H = some r → execC d n x T H = some r
  | .skip, _, _, _, e => e
  | .exit _, _, _, _, e => e
  | .ret, _, _, _, e => e
  | .region l, T, H, r, e => by
    simp only [execC, Option.map_eq_some_iff] at e ⊢
    obtain ⟨a, h1, h2⟩ := e
    exact ⟨a, runOps_mono h l h1, h2⟩
  | .draw l, T, H, r, e => by
    simp only [execC, Option.map_eq_some_iff] at e ⊢
    obtain ⟨a, h1, h2⟩ := e
    exact ⟨a, runDraw_mono h l h1, h2⟩
  | .seq a b, T, H, r, e => by
    simp only [execC] at e ⊢
    split at e
    · rename_i T' H' h1
      rw [execC_mono h hmn a h1]
      exact execC_mono h hmn b e
    · rename_i hne
      rw [execC_mono h hmn a e]
      obtain ⟨x, T', H'⟩ := r
      cases x with
      | norm => exact absurd e (hne _ _)
      | ret => rfl
      | exit id => rfl
  | .cond o a b, T, H, r, e => by
    simp only [execC] at e ⊢
    split at e
    · exact execC_mono h hmn a e
    · exact execC_mono h hmn b e
    · cases e
  | .block id b, T, H, r, e => by
    simp only [execC] at e ⊢
    split at e
    · rename_i j T' H' h1
      rw [execC_mono h hmn b h1]
      exact e
    · rename_i hne
      rw [execC_mono h hmn b e]
      obtain ⟨x, T', H'⟩ := r
      cases x with
      | norm => rfl
      | ret => rfl
      | exit id => exact absurd e (hne _ _ _)
  | .loop b, T, H, r, e => by
    simp only [execC] at e ⊢
    exact iter_mono (fun T H r e => execC_mono h hmn b e) hmn e
  | .rangeFn f ps a b, T, H, r, e => by
    simp only [execC] at e ⊢
    split at e
    · split at e
      · rename_i h1
        rw [h _ _ _ _ h1]
        exact e
      · cases e
    · cases e

theorem exec_mono {tab : Nat → Option XFun} {sp : Nat → List AV → AH → Option (AV × AH)} : ∀ {m n : Nat}, m ≤ n → CLe (exec tab sp m) (exec tab sp n)
  | 0, _, _, f, a, H, r, e => by simp [exec] at e
  | m + 1, 0, hmn, f, a, H, r, e => by omega
  | m + 1, n + 1, hmn, f, a, H, r, e => by
    have ih := exec_mono (tab := tab) (sp := sp) (m := m) (n := n) (by omega)
    have ihc := fun x T H r e => execC_mono ih (show m ≤ n by omega) x (T := T) (H := H) (r := r) e
    simp only [exec] at e ⊢
    split at e
    · split at e
      · rename_i F hF
        split at e
        · rename_i h1; simp only [ihc _ _ _ _ h1]; exact e
        · rename_i h1; simp only [ihc _ _ _ _ h1]; exact e
        · cases e
      · exact e
    · split at e
      · split at e
        · rename_i hps
          split at e
          · rename_i h1
            simp only [if_pos hps, ihc _ _ _ _ h1]
            split at e
            · split at e
              · rename_i h2
                simp only [ihc _ _ _ _ h2]
                exact e
              · cases e
            · cases e
          · cases e
        · cases e
      · cases e
    · cases e
end
end Go.Proofs.Ytjheedfobmlalaa.E
