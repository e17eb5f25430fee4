/- A chunk of any kind, as it is given. It bears no condition. -/
import Derived.Test.YtadloppgokobeaaQ
namespace Go.Proofs.Ytadloppgokobeaa.E
set_option linter.unusedVariables false
set_option linter.unusedSimpArgs false
theorem wfU8 {n : Int} (h : (Lit.int .u8 n).wf = true) : 0 ≤ n ∧ n < 256 := by simp [Lit.wf, IntKind.wrap, IntKind.signed, IntKind.bits, IntKind.min, IntKind.max] at h; omega
theorem wfU16 {n : Int} (h : (Lit.int .u16 n).wf = true) : 0 ≤ n ∧ n < 65536 := by simp [Lit.wf, IntKind.wrap, IntKind.signed, IntKind.bits, IntKind.min, IntKind.max] at h; omega
theorem wfU32 {n : Int} (h : (Lit.int .u32 n).wf = true) : 0 ≤ n ∧ n < 4294967296 := by simp [Lit.wf, IntKind.wrap, IntKind.signed, IntKind.bits, IntKind.min, IntKind.max] at h; omega
set_option maxRecDepth 100000 in
theorem chunkT {H : AH} (hok : H.Ok) {k : Nat} {r : List AV} (h : Typed Try.prog H (k + 6) 39 r) : ∃ (x : Ck) (a0 a1 a2 a3 a4 a5 : AV), r = [.i .u8 x.k, .i .u8 x.f, .i .u32 x.a, a0, .i .u16 x.o, .i .u16 x.i, .i .u32 x.p, a1, a2, a3, a4, a5] ∧ (0 ≤ x.f ∧ x.f < 256) ∧ (0 ≤ x.a ∧ x.a < 4294967296) ∧ dlen r = x.d.length ∧ FewRow (allL H) r ∧ (x.d.length ≤ 1073741824 → CkRow false (allL H) r x) := by
  obtain ⟨hl, hq⟩ := struct_parts (qs := [(5, 0, 1), (5, 1, 1), (23, 2, 1), (23, 3, 1), (22, 4, 1), (22, 5, 1), (23, 6, 1), (34, 7, 1), (35, 8, 1), (36, 9, 1), (37, 10, 1), (24, 11, 1)]) Try.underlying39 h (by kernel_rfl)
  rw [show Try.prog.cellsOf 39 = 12 by kernel_rfl] at hl
  obtain ⟨x0, x1, x2, x3, x4, x5, x6, x7, x8, x9, x10, x11, rfl⟩ : ∃ a b c d e f g i j k l m, r = [a, b, c, d, e, f, g, i, j, k, l, m] := by
    match r, hl with
    | [a, b, c, d, e, f, g, i, j, k, l, m], _ => exact ⟨a, b, c, d, e, f, g, i, j, k, l, m, rfl⟩
  simp only [List.forall_mem_cons, List.drop_zero, List.drop_succ_cons, List.take_succ_cons, List.take_zero] at hq
  obtain ⟨q0, q1, q2, q3, q4, q5, q6, q7, q8, q9, q10, q11, _⟩ := hq
  obtain ⟨n0, e0, w0⟩ := typed_int Try.underlying5 q0
  obtain ⟨n1, e1, w1⟩ := typed_int Try.underlying5 q1
  obtain ⟨n2, e2, w2⟩ := typed_int Try.underlying23 q2
  obtain ⟨n3, e3, w3⟩ := typed_int Try.underlying23 q3
  obtain ⟨n4, e4, w4⟩ := typed_int Try.underlying22 q4
  obtain ⟨n5, e5, w5⟩ := typed_int Try.underlying22 q5
  obtain ⟨n6, e6, w6⟩ := typed_int Try.underlying23 q6
  cases e0; cases e1; cases e2; cases e3; cases e4; cases e5; cases e6
  obtain ⟨b7, l7, c7, rfl, _⟩ := typed_recs (z := 2) Try.underlying34 (by kernel_rfl) q7
  obtain ⟨b8, l8, c8, rfl, _⟩ := typed_recs (z := 1) Try.underlying35 (by kernel_rfl) q8
  obtain ⟨b9, l9, c9, rfl, _⟩ := typed_recs (z := 2) Try.underlying36 (by kernel_rfl) q9
  obtain ⟨b10, l10, c10, rfl, h10, _, hr10⟩ := typed_recs (z := 2) Try.underlying37 (by kernel_rfl) q10
  obtain ⟨da, dn, dc, d, rfl, hb, rfl, hc, hm⟩ := typed_bytes Try.underlying24 Try.underlying5 (by kernel_rfl) q11
  have hmm : dc ≤ 9223372036854775807 := Nat.le_trans hm (by decide)
  have hB : ∀ H', Hs H' (allL H) → Bs H' (.sl da d.length dc 0) d := fun H' hh => Bs.ro (R := []) hb hok (by rw [List.append_nil]; exact hh)
  have k1 := wfU8 w0
  have k2 := wfU8 w1
  have k3 := wfU32 w2
  refine ⟨⟨n0, n1, n2, n4, n5, n6, d⟩, _, _, _, _, _, _, rfl, k2, k3, rfl, ?_, fun hd => ⟨n3, _, _, _, _, _, _, _, rfl, .inl rfl, hc, hmm, ⟨k1, k2, k3, hd⟩, (fun h => by cases h), hB⟩⟩
  obtain ⟨rows, hrw, _, hrt⟩ := Rw.given h10 hr10
  refine ⟨_, _, _, _, _, _, _, _, _, _, _, _, _, _, _, _, _, _, _, _, 0, 0, 0, 0, rfl, rows, fun H' hh => hrw.ro (R := []) hok (by rw [List.append_nil]; exact hh), fun i r hr => ?_⟩
  obtain ⟨pl, pq⟩ := struct_parts (qs := [(22, 0, 1), (24, 1, 1)]) Try.underlying54 (hrt i r hr) (by kernel_rfl)
  rw [show Try.prog.cellsOf 54 = 2 by kernel_rfl] at pl
  obtain ⟨y0, y1, rfl⟩ : ∃ a b, r = [a, b] := by
    match r, pl with
    | [a, b], _ => exact ⟨a, b, rfl⟩
  simp only [List.forall_mem_cons, List.drop_zero, List.drop_succ_cons, List.take_succ_cons, List.take_zero] at pq
  obtain ⟨_, p1, _⟩ := pq
  obtain ⟨a, n, c, rfl, _⟩ := typed_recs (z := 1) Try.underlying24 (by kernel_rfl) p1
  exact ⟨y0, a, n, c, 0, rfl⟩

end Go.Proofs.Ytadloppgokobeaa.E
