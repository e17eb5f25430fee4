/- Steps that are given. It bears no condition. -/
import Derived.Test.YtjheedfobmlalaaGG2
import Derived.Test.YtjheedfobmlalaaRows
import Derived.ProofKit
import Derived.OpenShut
set_option maxRecDepth 100000
namespace Go.Proofs.Ytjheedfobmlalaa.E
set_option linter.unusedVariables false
set_option linter.unusedSimpArgs false
abbrev tabA := tabS
theorem tabA_ok : TabOK Try.prog tabA := tabS_ok
theorem dst_e (c n : Int) : dst c n = (n - c) % 4294967296 := wrap_u32 _
theorem nxt_e (c : Int) : nxt c = (c + 1) % 4294967296 := wrap_u32 _
theorem blw_e (c n : Int) : blw c n = true ↔ (dst c n = 0 ∨ 2147483648 ≤ dst c n) := by unfold blw; simp
theorem climb_len : ∀ (k : Nat) (l : List Int) (c : Int), l.length ≤ k → (climbF c l).2.length ≤ l.length
  | 0, l, c, h => by
    have : l = [] := List.length_eq_zero_iff.1 (by omega)
    subst this; rw [climbF_stop (by simp)]; exact Nat.le_refl _
  | k + 1, l, c, h => by
    by_cases hin : nxt c ∈ l
    · have h1 := udel_lt hin
      rw [climbF_step hin]
      have := climb_len k (udel l (nxt c)) (nxt c) (by omega)
      omega
    · rw [climbF_stop hin]; exact Nat.le_refl _
theorem uadd_len (l : List Int) (k : Int) : (uadd l k).length ≤ l.length + 1 := by unfold uadd; split <;> simp
theorem Gp.add_len (s : Gp) (n : Int) : (s.add n).l.length ≤ s.l.length + 1 := by
  unfold Gp.add
  split
  · split <;> simp
  · split
    · simp
    · have := climb_len _ (uadd s.l n) s.c (Nat.le_refl _)
      have h2 := uadd_len s.l n
      show (climbF s.c (uadd s.l n)).2.length ≤ _
      omega
theorem Gp.add_d (s : Gp) (n : Int) (h : s.d.length ≤ 64) : (s.add n).d.length ≤ 64 := by
  unfold Gp.add
  split
  · split
    · simp only [List.length_append, List.length_singleton]; omega
    · exact h
  · split
    · exact h
    · exact h
/-! ### The steps that are given -/
abbrev opRow (o : Int × Int) : List AV := [.i .i64 o.1, .i .u32 o.2]
theorem op_rows : ∀ {rows : List (List AV)}, (∀ (i : Nat) (r : List AV), rows[i]? = some r → ∃ o, r = opRow o) → ∃ ol : List (Int × Int), rows = ol.map opRow
  | [], _ => ⟨[], rfl⟩
  | r :: rows, h => by
    obtain ⟨o, ho⟩ := h 0 r rfl
    obtain ⟨ol, h1⟩ := op_rows (rows := rows) fun i r hi => h (i + 1) r (by simpa using hi)
    exact ⟨o :: ol, by rw [List.map_cons, ← ho, ← h1]⟩
theorem op_row {ol : List (Int × Int)} {i : Nat} {o : Int × Int} (h : ol[i]? = some o) : (ol.map opRow)[i]? = some [.i .i64 o.1, .i .u32 o.2] := by rw [List.getElem?_map, h]; rfl
theorem opT {H : AH} {k : Nat} {r : List AV} (h : Typed Try.prog H (k + 3) 38 r) : ∃ o, r = opRow o := by
  obtain ⟨hl, hq⟩ := struct_parts (qs := [(3, 0, 1), (22, 1, 1)]) Try.underlying38 h (by kernel_rfl)
  rw [show Try.prog.cellsOf 38 = 2 by kernel_rfl] at hl
  obtain ⟨x0, x1, rfl⟩ : ∃ a b, r = [a, b] := by
    match r, hl with
    | [a, b], _ => exact ⟨a, b, rfl⟩
  simp only [List.forall_mem_cons, List.drop_zero, List.drop_succ_cons, List.take_succ_cons, List.take_zero] at hq
  obtain ⟨q0, q1, _⟩ := hq
  obtain ⟨n0, e0, w0⟩ := typed_int Try.underlying3 q0
  obtain ⟨n1, e1, w1⟩ := typed_int Try.underlying22 q1
  cases e0; cases e1
  exact ⟨(n0, n1), rfl⟩
theorem opsT {H : AH} (hok : H.Ok) {v : AV} (h : Typed Try.prog H 9 36 [v]) : ∃ ol : List (Int × Int), ∀ H', Hs H' (allL H) → Rw 2 H' v (ol.map opRow) := by
  obtain ⟨p, n, c, rfl, hnc, _, hr⟩ := typed_recs (z := 2) Try.underlying36 (by kernel_rfl) h
  obtain ⟨rows, hrw, _, hrt⟩ := Rw.given hnc hr
  obtain ⟨ol, rfl⟩ := op_rows fun i r hi => opT (k := 5) (hrt i r hi)
  exact ⟨ol, fun H' hh => hrw.ro (R := []) hok (by rw [List.append_nil]; exact hh)⟩
end Go.Proofs.Ytjheedfobmlalaa.E
