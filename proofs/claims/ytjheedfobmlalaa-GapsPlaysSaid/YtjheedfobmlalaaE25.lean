/- Arguments that are slices of numbers, under names of one's own. It bears no condition. -/
import Derived.Test.YtjheedfobmlalaaE24
namespace Go.Proofs.Ytjheedfobmlalaa.E
set_option linter.unusedVariables false
set_option linter.unusedSimpArgs false
section
variable {P : Program} {B : Nat} {w0 W : World} {ρ : Rho} {H : AH}

theorem struct_parts {k : Nat} {t : TypeId} {fs : Array Field} {l : List AV} {qs : List (TypeId × Nat × Nat)} (hu : P.underlying t = some (.struct fs)) (h : Typed P H (k + 1) t l) (hq : fs.toList.map (fun f => (f.type, f.offset, P.cellsOf f.type)) = qs) :
    l.length = P.cellsOf t ∧ ∀ q ∈ qs, Typed P H k q.1 ((l.drop q.2.1).take q.2.2) := by
  unfold Typed at h
  rw [hu] at h
  refine ⟨h.1, fun q hq' => ?_⟩
  rw [← hq] at hq'
  obtain ⟨f, hf, rfl⟩ := List.mem_map.1 hq'
  exact h.2 f hf
theorem typed_int {k : Nat} {t : TypeId} {kd : IntKind} {l : List AV} (hu : P.underlying t = some (.int kd)) (h : Typed P H (k + 1) t l) : ∃ n, l = [.i kd n] ∧ (Lit.int kd n).wf = true := by
  unfold Typed at h; rw [hu] at h; exact h
theorem typedV_int {k : Nat} {t : TypeId} {kd : IntKind} {a : AV} (hu : P.underlying t = some (.int kd)) (h : TypedV P H (k + 1) t a) : ∃ n, a = .i kd n ∧ (Lit.int kd n).wf = true := by
  unfold TypedV at h; rw [hu] at h
  obtain ⟨n, h, hw⟩ := typed_int hu h
  exact ⟨n, by simpa using h, hw⟩
theorem typedV_slice {k : Nat} {t e : TypeId} {a : AV} (hu : P.underlying t = some (.slice e)) (h : TypedV P H k t a) : Typed P H k t [a] := by
  unfold TypedV at h; rw [hu] at h; exact h
end
end Go.Proofs.Ytjheedfobmlalaa.E
