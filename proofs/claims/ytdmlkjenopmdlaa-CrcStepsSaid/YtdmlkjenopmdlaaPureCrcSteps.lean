/- CrcSteps: where any table leads any sum over any octets is what the reference says, for every input. -/
import Derived.Test.YtdmlkjenopmdlaaPCrcStepsx1
import Derived.Laws.BitsAllLaws
namespace Go.Proofs.Ytdmlkjenopmdlaa.Pure
open Go.RowKit Go.Proofs.Ytdmlkjenopmdlaa Go.Proofs.Ytdmlkjenopmdlaa.PCrcSteps Go.Proofs.YtdmlkjenopmdlaaW.PrintWords Go.Proofs.YtdmlkjenopmdlaaW.PrintLast Go.Proofs.YtdmlkjenopmdlaaW.PrintMore
set_option linter.unusedVariables false
set_option linter.unusedSimpArgs false
theorem w64 {n : Int} (h : -9223372036854775808 ≤ n) (h2 : n ≤ 9223372036854775807) : wrap64 n = n := IntWalk.wrap64_in n ⟨h, h2⟩
theorem bd8 {a : Int} (h : (Lit.int .u8 a).wf = true) : 0 ≤ a ∧ a < 256 := by
  have hmin : IntKind.u8.min = 0 := rfl
  have hmax : IntKind.u8.max = 255 := rfl
  simp only [Lit.wf, Bool.and_eq_true, decide_eq_true_eq, hmin, hmax] at h
  omega
theorem bd32 {a : Int} (h : (Lit.int .u32 a).wf = true) : 0 ≤ a ∧ a < 4294967296 := by
  have hmin : IntKind.u32.min = 0 := rfl
  have hmax : IntKind.u32.max = 4294967295 := rfl
  simp only [Lit.wf, Bool.and_eq_true, decide_eq_true_eq, hmin, hmax] at h
  omega
theorem awake_eq : bollardlaw03_awake.f = some true := rfl
theorem table_eq : crc_Table.f = some tab := rfl
theorem rd_get (l : List Int) (i : Int) (h0 : 0 ≤ i) (h1 : i < l.length) : ∃ h : i.toNat < l.length, rd l i = l[i.toNat] := by
  have hi : i.toNat < l.length := by omega
  refine ⟨hi, ?_⟩
  unfold rd
  rw [List.getD_eq_getElem?_getD, List.getElem?_eq_getElem hi]; rfl
theorem rd_tab (x : Nat) (hx : x < 256) : rd tab (x : Int) = (Crc.L8 x : Int) := by
  unfold rd tab
  rw [List.getD_eq_getElem?_getD, List.getElem?_map, Int.toNat_natCast, List.getElem?_range hx]; rfl
/-- Octets as natural numbers. -/
def nats (l : List Int) : List Nat := l.map Int.toNat
theorem nats_lt (l : List Int) (hl : ∀ x ∈ l, 0 ≤ x ∧ x < 256) : ∀ x ∈ nats l, x < 256 := by
  intro x hx
  obtain ⟨y, hy, rfl⟩ := List.mem_map.1 hx
  have := hl y hy
  omega
/-- The step over the program's own table. -/
theorem step_loop (l : List Int) (hl : ∀ x ∈ l, 0 ≤ x ∧ x < 256) (hlen : (l.length : Int) ≤ 1000000) (d : Nat) :
    ∀ (k : Nat) (s : Nat) (i : Nat), s < 4294967296 → i + d = l.length → d < k →
    crc_Step.l0 k tab (s : Int) l (l.length : Int) (i : Int) = some ((Crc.run s (nats (l.drop i)) : Nat) : Int) := by
  induction d with
  | zero =>
    intro k s i hs hi hk
    obtain ⟨k, rfl⟩ : ∃ m, k = m + 1 := ⟨k - 1, by omega⟩
    simp only [crc_Step.l0]
    rw [if_neg (by omega), List.drop_of_length_le (by omega)]
    rfl
  | succ d ih =>
    intro k s i hs hi hk
    obtain ⟨k, rfl⟩ : ∃ m, k = m + 1 := ⟨k - 1, by omega⟩
    have hil : i < l.length := by omega
    obtain ⟨_, hrd⟩ := rd_get l (i : Int) (by omega) (by omega)
    simp only [Int.toNat_natCast] at hrd
    obtain ⟨x0, x1⟩ := hl _ (List.getElem_mem hil)
    obtain ⟨x, hx⟩ : ∃ x : Nat, l[i] = (x : Int) := ⟨l[i].toNat, by omega⟩
    have hx2 : x < 256 := by omega
    have e1 : Go.bits .xor .u8 ((s : Int) % 256) (rd l (i : Int)) = ((s % 256 ^^^ x : Nat) : Int) := by
      rw [hrd, hx]
      have := u8_xor_nat (s % 256) x (Nat.mod_lt _ (by decide)) hx2
      rw [← this]; congr 1
    have e2 : s % 256 ^^^ x < 256 := Crc.xor_lt8 _ _ (Nat.mod_lt _ (by decide)) hx2
    have e3 : Go.bits .xor .u32 ((s : Int) / 256) ((Crc.L8 (s % 256 ^^^ x) : Nat) : Int) = ((Crc.step s x : Nat) : Int) := by
      rw [Crc.step_table s x hx2]
      have := u32_xor_nat (s / 256) (Crc.L8 (s % 256 ^^^ x)) (by omega) (Crc.L8_lt _ (by omega))
      rw [← this]; congr 1
    simp only [crc_Step.l0]
    rw [e1, if_pos (by omega), if_pos (by omega), if_pos (by omega), if_pos (by omega), if_pos (by rw [tab_len]; omega), rd_tab _ e2, e3, w64 (by omega) (by omega)]
    have e4 : (i : Int) + 1 = ((i + 1 : Nat) : Int) := by omega
    rw [e4, ih k (Crc.step s x) (i + 1) (Crc.step_lt s x hs hx2) (by omega) (by omega)]
    rw [List.drop_eq_getElem_cons hil]
    unfold nats
    rw [List.map_cons, hx]
    rfl
theorem step_eq (l : List Int) (hl : ∀ x ∈ l, 0 ≤ x ∧ x < 256) (hlen : (l.length : Int) ≤ 1000000) (k s : Nat) (hs : s < 4294967296) (hk : l.length < k) :
    crc_Step.f k tab (s : Int) l = some ((Crc.run s (nats l) : Nat) : Int) := by
  unfold crc_Step.f
  rw [if_pos (by rw [tab_len]; rfl)]
  have := step_loop l hl hlen l.length k s 0 hs (by omega) hk
  simpa using this
theorem sum_eq (l : List Int) (hl : ∀ x ∈ l, 0 ≤ x ∧ x < 256) (hlen : (l.length : Int) ≤ 1000000) (k : Nat) (hk : l.length < k) :
    crc_Sum.f k tab l = some (((Crc.run 4294967295 (nats l)) ^^^ 4294967295 : Nat) : Int) := by
  unfold crc_Sum.f
  rw [if_pos (by rw [tab_len]; rfl)]
  have h := step_eq l hl hlen k 4294967295 (by decide) hk
  have e : ((4294967295 : Nat) : Int) = 4294967295 := rfl
  rw [e] at h
  rw [h, Option.bind_some]
  have := u32_xor_nat 4294967295 (Crc.run 4294967295 (nats l)) (by decide) (Crc.run_lt _ _ (by decide) (nats_lt l hl))
  rw [e] at this
  rw [this, Nat.xor_comm]
theorem xor_all_inj (a b : Nat) (h : a ^^^ 4294967295 = b ^^^ 4294967295) : a = b := by
  have e : a ^^^ 4294967295 ^^^ 4294967295 = b ^^^ 4294967295 ^^^ 4294967295 := by rw [h]
  rwa [Nat.xor_assoc, Nat.xor_self, Nat.xor_zero, Nat.xor_assoc, Nat.xor_self, Nat.xor_zero] at e
theorem both (tbl : List Int) (htl : (tbl.length : Int) = 256) (htb : ∀ x ∈ tbl, 0 ≤ x ∧ x < 4294967296) (l : List Int) (hl : ∀ x ∈ l, 0 ≤ x ∧ x < 256) (hlen : (l.length : Int) ≤ 1000000) (d : Nat) :
    ∀ (k : Nat) (s : Int) (i : Nat), 0 ≤ s ∧ s < 4294967296 → i + d = l.length → d < k →
    ∃ r, crc_Step.l0 k tbl s l (l.length : Int) (i : Int) = some r ∧ bollardref03_Step.l0 k tbl s l (i : Int) = some r ∧ 0 ≤ r ∧ r < 4294967296 := by
  induction d with
  | zero =>
    intro k s i hs hi hk
    obtain ⟨k, rfl⟩ : ∃ m, k = m + 1 := ⟨k - 1, by omega⟩
    refine ⟨s, ?_, ?_, hs⟩
    · simp only [crc_Step.l0]; rw [if_neg (by omega)]
    · simp only [bollardref03_Step.l0]; rw [if_neg (by omega)]
  | succ d ih =>
    intro k s i hs hi hk
    obtain ⟨k, rfl⟩ : ∃ m, k = m + 1 := ⟨k - 1, by omega⟩
    have hil : i < l.length := by omega
    obtain ⟨_, hrd⟩ := rd_get l (i : Int) (by omega) (by omega)
    simp only [Int.toNat_natCast] at hrd
    obtain ⟨x0, x1⟩ := hl _ (List.getElem_mem hil)
    rw [← hrd] at x0 x1
    obtain ⟨x, hRD⟩ : ∃ x, rd l (i : Int) = x := ⟨_, rfl⟩
    rw [hRD] at x0 x1
    have e1 : ∃ q : Nat, Go.bits .xor .u8 (s % 256) x = (q : Int) ∧ q < 256 := by
      have e := u8_xor (s % 256) x (by omega) (by omega) x0 x1
      exact ⟨_, e, Crc.xor_lt8 _ _ (by omega) (by omega)⟩
    obtain ⟨q, eq, hq⟩ := e1
    obtain ⟨hqi, hqr⟩ := rd_get tbl (q : Int) (by omega) (by omega)
    have hb := htb _ (List.getElem_mem hqi)
    rw [← hqr] at hb
    obtain ⟨y, hTB⟩ : ∃ y, rd tbl (q : Int) = y := ⟨_, rfl⟩
    rw [hTB] at hb
    have e2 : Int.tdiv s 256 % 4294967296 = s / 256 := by rw [Int.tdiv_eq_ediv_of_nonneg hs.1]; omega
    have e3 : 0 ≤ Go.bits .xor .u32 (s / 256) y ∧ Go.bits .xor .u32 (s / 256) y < 4294967296 := by
      have e := u32_xor (s / 256) y (by omega) (by omega) hb.1 hb.2
      have := Crc.xor_lt (s / 256).toNat y.toNat (by omega) (by omega)
      rw [e]; omega
    obtain ⟨r, r1, r2, r3⟩ := ih k _ (i + 1) e3 (by omega) (by omega)
    have e4 : (i : Int) + 1 = ((i + 1 : Nat) : Int) := by omega
    refine ⟨r, ?_, ?_, r3⟩
    · simp only [crc_Step.l0]
      rw [hRD, eq, if_pos (by omega), if_pos (by omega), if_pos (by omega), if_pos (by omega), if_pos (by omega), hTB, w64 (by omega) (by omega), e4]
      exact r1
    · simp only [bollardref03_Step.l0]
      rw [hRD, eq, w64 (n := (q : Int)) (by omega) (by omega), if_pos (by omega), if_pos (by omega), if_pos (by omega), if_pos (by omega), e2, hTB, w64 (by omega) (by omega), e4]
      exact r2
theorem CrcSteps : bollardlaw03_CrcSteps.Pure := by
  intro tbl s l _ _ wt ws _ _ wl
  have hl : ∀ x ∈ l, 0 ≤ x ∧ x < 256 := fun x hx => bd8 (wl x hx)
  have ht : ∀ x ∈ tbl, 0 ≤ x ∧ x < 4294967296 := fun x hx => bd32 (wt x hx)
  have hs := bd32 ws
  refine ⟨l.length + 2, ?_⟩
  unfold bollardlaw03_CrcSteps.f
  rw [awake_eq, Option.bind_some]
  have out : bollardlaw03_CrcSteps.j0 (l.length + 2) tbl s l true true = some true := by
    simp only [bollardlaw03_CrcSteps.j0]; rw [if_pos trivial]
  by_cases h0 : (tbl.length : Int) > 1000
  · rw [if_pos h0]; exact out
  rw [if_neg h0]
  by_cases h1 : (l.length : Int) > 2000
  · rw [decide_eq_true h1]; exact out
  rw [decide_eq_false h1]
  have n0 : ¬ (false = true) := by decide
  simp only [bollardlaw03_CrcSteps.j0]
  rw [if_neg n0]
  unfold crc_Sum.f crc_Step.f bollardref03_Step.f
  by_cases hb : (tbl.length : Int) = 256
  · simp only [if_pos hb]
    obtain ⟨r, r1, r2, r3⟩ := both tbl hb ht l hl (by omega) l.length (l.length + 1) s 0 hs (by omega) (by omega)
    obtain ⟨q, q1, q2, q3⟩ := both tbl hb ht l hl (by omega) l.length (l.length + 1) 4294967295 0 (by omega) (by omega) (by omega)
    simp only [Int.natCast_zero, Int.cast_ofNat_Int] at r1 r2 q1 q2
    rw [q1, q2, r1, r2]
    simp only [Option.bind_some, if_true]
    have e1 := u32_xor 4294967295 q (by omega) (by omega) q3.1 q3.2
    have e2 := u32_xor q 4294967295 q3.1 q3.2 (by omega) (by omega)
    rw [e1, e2, Nat.xor_comm]; simp
  · simp only [if_neg hb]; simp
end Go.Proofs.Ytdmlkjenopmdlaa.Pure
