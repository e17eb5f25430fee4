/- Arguments that are slices of numbers, under names of one's own. It bears no condition. -/
import Derived.Test.YtjheedfobmlalaaE24
namespace Go.Proofs.Ytjheedfobmlalaa.E
set_option linter.unusedVariables false
set_option linter.unusedSimpArgs false
section
variable {P : Program} {B : Nat} {w0 W : World} {ρ : Rho} {H : AH}

theorem flatVL_of : ∀ (l : List AV), (∀ x ∈ l, flatV x = true) → flatVL l = true
  | [], _ => rfl
  | x :: l, h => by simp only [flatVL, h x (List.mem_cons_self ..), Bool.true_and]; exact flatVL_of l fun y hy => h y (List.mem_cons_of_mem _ hy)

theorem pickR_zero (ρ : Rho) (b : Nat) : pickR ρ [b] 0 = ρ b := rfl

/-- A slice of numbers, and its block, under the name 0. -/
theorem pick_ints {k : Nat} {t e : TypeId} {kd : IntKind} {l : List AV} (hu : P.underlying t = some (.slice e)) (he : P.underlying e = some (.int kd)) (hz : P.cellsOf e = 1) (hR : Rel P B w0 ρ H W) (h : Typed P H (k + 2) t l) :
    ∃ x p len cap b0, l = [x] ∧ (∀ v, VR ρ x v → VR (pickR ρ [b0]) (.sl p len cap 0) v) ∧ (∀ n ∈ [b0], ∀ c mu, H.get n = some (.cells c mu) → flatVL c = true) ∧ len ≤ cap ∧ cap ≤ maxLen ∧
      ((p = none ∧ len = 0 ∧ cap = 0) ∨ (p = some (0, 0) ∧ (cap = 0 ∨ ∃ ns : List Int, ns.length = cap ∧ (∀ n ∈ ns, (Lit.int kd n).wf = true) ∧ H.get b0 = some (.cells (ns.map (AV.i kd)) false)))) := by
  unfold Typed at h
  rw [hu] at h
  simp only at h
  have hnone : H.get H.next = none := hR.none_get (Nat.le_refl _)
  have hno : ∀ n ∈ [H.next], ∀ c mu, H.get n = some (.cells c mu) → flatVL c = true := fun n hn c mu hg => by
    simp only [List.mem_singleton] at hn; subst hn; rw [hnone] at hg; cases hg
  rcases h with rfl | rfl | ⟨b, len, cap, c, rfl, h1, h2, h3, h4, h5, h6⟩
  · exact ⟨_, none, 0, 0, H.next, rfl, fun v hv => by simpa only [VR] using hv, hno, Nat.le_refl _, Nat.zero_le _, .inl ⟨rfl, rfl, rfl⟩⟩
  · refine ⟨_, some (0, 0), 0, 0, H.next, rfl, fun v hv => ?_, hno, Nat.le_refl _, Nat.zero_le _, .inr ⟨rfl, .inl rfl⟩⟩
    unfold VR at hv ⊢
    obtain ⟨x, c, rfl, hl, hv⟩ := hv
    refine ⟨x, c, rfl, hl, .inr ⟨rfl, rfl, ?_⟩⟩
    rcases hv with ⟨_, _, _, _, _, hc, _⟩ | ⟨_, _, hc⟩
    · exact hc rfl
    · exact hc
  · rw [hz, Nat.mul_one] at h5
    have hel : ∀ i (hi : i < c.length), ∃ n, c[i] = .i kd n ∧ (Lit.int kd n).wf = true := fun i hi => by
      have := h6 i (by omega)
      unfold Typed at this
      rw [he, hz] at this
      simp only [Nat.mul_one] at this
      obtain ⟨n, e1, e2⟩ := this
      refine ⟨n, ?_, e2⟩
      have e3 : (c.drop i).take 1 = [c[i]] := by rw [List.drop_eq_getElem_cons hi]; rfl
      rw [e3] at e1
      exact (List.cons.inj e1).1
    obtain ⟨ns, hns, hwf⟩ : ∃ ns : List Int, c = ns.map (AV.i kd) ∧ ∀ n ∈ ns, (Lit.int kd n).wf = true := by
      clear h6 h4 h5
      induction c with
      | nil => exact ⟨[], rfl, by simp⟩
      | cons x c ih =>
        obtain ⟨n, e1, e2⟩ := hel 0 (by simp)
        obtain ⟨ns, e3, e4⟩ := ih fun i hi => hel (i + 1) (Nat.succ_lt_succ hi)
        simp only [List.getElem_cons_zero] at e1
        refine ⟨n :: ns, by rw [e1, e3]; rfl, fun m hm => ?_⟩
        rcases List.mem_cons.1 hm with rfl | hm
        · exact e2
        · exact e4 m hm
    subst hns
    refine ⟨_, some (0, 0), len, cap, b, rfl, fun v hv => ?_, fun n hn c' mu hg => ?_, h1, h3, .inr ⟨rfl, .inr ⟨ns, by simpa using h5, hwf, h4⟩⟩⟩
    · unfold VR at hv ⊢
      exact hv
    · simp only [List.mem_singleton] at hn; subst hn
      rw [h4] at hg; cases hg
      refine flatVL_of _ fun x hx => ?_
      obtain ⟨n, _, rfl⟩ := List.mem_map.1 hx
      rfl

theorem struct_parts {k : Nat} {t : TypeId} {fs : Array Field} {l : List AV} {qs : List (TypeId × Nat × Nat)} (hu : P.underlying t = some (.struct fs)) (h : Typed P H (k + 1) t l) (hq : fs.toList.map (fun f => (f.type, f.offset, P.cellsOf f.type)) = qs) :
    l.length = P.cellsOf t ∧ ∀ q ∈ qs, Typed P H k q.1 ((l.drop q.2.1).take q.2.2) := by
  unfold Typed at h
  rw [hu] at h
  refine ⟨h.1, fun q hq' => ?_⟩
  rw [← hq] at hq'
  obtain ⟨f, hf, rfl⟩ := List.mem_map.1 hq'
  exact h.2 f hf
theorem typed_int {k : Nat} {t : TypeId} {kd : IntKind} {l : List AV} (hu : P.underlying t = some (.int kd)) (h : Typed P H (k + 1) t l) : ∃ n, l = [.i kd n] ∧ (Lit.int kd n).wf = true := by
  unfold Typed at h; rw [hu] at h; exact h
theorem typed_bool {k : Nat} {t : TypeId} {l : List AV} (hu : P.underlying t = some .bool) (h : Typed P H (k + 1) t l) : ∃ b, l = [.b b] := by
  unfold Typed at h; rw [hu] at h; exact h
theorem typed_string {k : Nat} {t : TypeId} {l : List AV} (hu : P.underlying t = some .string) (h : Typed P H (k + 1) t l) : ∃ s, l = [.s s] ∧ s.size ≤ maxLen := by
  unfold Typed at h; rw [hu] at h; exact h
theorem typedV_struct {k : Nat} {t : TypeId} {fs : Array Field} {a : AV} (hu : P.underlying t = some (.struct fs)) (h : TypedV P H k t a) : ∃ l, a = .agg l ∧ Typed P H k t l := by
  unfold TypedV at h; rw [hu] at h; exact h
theorem typedV_int {k : Nat} {t : TypeId} {kd : IntKind} {a : AV} (hu : P.underlying t = some (.int kd)) (h : TypedV P H (k + 1) t a) : ∃ n, a = .i kd n ∧ (Lit.int kd n).wf = true := by
  unfold TypedV at h; rw [hu] at h
  obtain ⟨n, h, hw⟩ := typed_int hu h
  exact ⟨n, by simpa using h, hw⟩
theorem typedV_bool {k : Nat} {t : TypeId} {a : AV} (hu : P.underlying t = some .bool) (h : TypedV P H (k + 1) t a) : ∃ b, a = .b b := by
  unfold TypedV at h; rw [hu] at h
  obtain ⟨n, h⟩ := typed_bool hu h
  exact ⟨n, by simpa using h⟩
theorem typedV_string {k : Nat} {t : TypeId} {a : AV} (hu : P.underlying t = some .string) (h : TypedV P H (k + 1) t a) : ∃ s, a = .s s ∧ s.size ≤ maxLen := by
  unfold TypedV at h; rw [hu] at h
  obtain ⟨n, h, hw⟩ := typed_string hu h
  exact ⟨n, by simpa using h, hw⟩
theorem typedV_slice {k : Nat} {t e : TypeId} {a : AV} (hu : P.underlying t = some (.slice e)) (h : TypedV P H k t a) : Typed P H k t [a] := by
  unfold TypedV at h; rw [hu] at h; exact h
end
end Go.Proofs.Ytjheedfobmlalaa.E
