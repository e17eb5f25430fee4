/- CrcParts: octets in two pieces have one step as the whole, for every input. -/
import Derived.Test.YtdmlkjenopmdlaaPCrcPartsx1
import Derived.Laws.BitsAllLaws
namespace Go.Proofs.Ytdmlkjenopmdlaa.Pure
open Go.RowKit Go.Proofs.Ytdmlkjenopmdlaa Go.Proofs.Ytdmlkjenopmdlaa.PCrcParts Go.Proofs.YtdmlkjenopmdlaaW.PrintWords Go.Proofs.YtdmlkjenopmdlaaW.PrintLast Go.Proofs.YtdmlkjenopmdlaaW.PrintMore
set_option linter.unusedVariables false
set_option linter.unusedSimpArgs false
theorem w64 {n : Int} (h : -9223372036854775808 ≤ n) (h2 : n ≤ 9223372036854775807) : wrap64 n = n := IntWalk.wrap64_in n ⟨h, h2⟩
theorem bd8 {a : Int} (h : (Lit.int .u8 a).wf = true) : 0 ≤ a ∧ a < 256 := by
  have hmin : IntKind.u8.min = 0 := rfl
  have hmax : IntKind.u8.max = 255 := rfl
  simp only [Lit.wf, Bool.and_eq_true, decide_eq_true_eq, hmin, hmax] at h
  omega
theorem bd32 {a : Int} (h : (Lit.int .u32 a).wf = true) : 0 ≤ a ∧ a < 4294967296 := by
  have hmin : IntKind.u32.min = 0 := rfl
  have hmax : IntKind.u32.max = 4294967295 := rfl
  simp only [Lit.wf, Bool.and_eq_true, decide_eq_true_eq, hmin, hmax] at h
  omega
theorem awake_eq : bollardlaw03_awake.f = some true := rfl
theorem table_eq : crc_Table.f = some tab := rfl
theorem rd_get (l : List Int) (i : Int) (h0 : 0 ≤ i) (h1 : i < l.length) : ∃ h : i.toNat < l.length, rd l i = l[i.toNat] := by
  have hi : i.toNat < l.length := by omega
  refine ⟨hi, ?_⟩
  unfold rd
  rw [List.getD_eq_getElem?_getD, List.getElem?_eq_getElem hi]; rfl
theorem rd_tab (x : Nat) (hx : x < 256) : rd tab (x : Int) = (Crc.L8 x : Int) := by
  unfold rd tab
  rw [List.getD_eq_getElem?_getD, List.getElem?_map, Int.toNat_natCast, List.getElem?_range hx]; rfl
/-- Octets as natural numbers. -/
def nats (l : List Int) : List Nat := l.map Int.toNat
theorem nats_lt (l : List Int) (hl : ∀ x ∈ l, 0 ≤ x ∧ x < 256) : ∀ x ∈ nats l, x < 256 := by
  intro x hx
  obtain ⟨y, hy, rfl⟩ := List.mem_map.1 hx
  have := hl y hy
  omega
/-- The step over the program's own table. -/
theorem step_loop (l : List Int) (hl : ∀ x ∈ l, 0 ≤ x ∧ x < 256) (hlen : (l.length : Int) ≤ 1000000) (d : Nat) :
    ∀ (k : Nat) (s : Nat) (i : Nat), s < 4294967296 → i + d = l.length → d < k →
    crc_Step.l0 k tab (s : Int) l (l.length : Int) (i : Int) = some ((Crc.run s (nats (l.drop i)) : Nat) : Int) := by
  induction d with
  | zero =>
    intro k s i hs hi hk
    obtain ⟨k, rfl⟩ : ∃ m, k = m + 1 := ⟨k - 1, by omega⟩
    simp only [crc_Step.l0]
    rw [if_neg (by omega), List.drop_of_length_le (by omega)]
    rfl
  | succ d ih =>
    intro k s i hs hi hk
    obtain ⟨k, rfl⟩ : ∃ m, k = m + 1 := ⟨k - 1, by omega⟩
    have hil : i < l.length := by omega
    obtain ⟨_, hrd⟩ := rd_get l (i : Int) (by omega) (by omega)
    simp only [Int.toNat_natCast] at hrd
    obtain ⟨x0, x1⟩ := hl _ (List.getElem_mem hil)
    obtain ⟨x, hx⟩ : ∃ x : Nat, l[i] = (x : Int) := ⟨l[i].toNat, by omega⟩
    have hx2 : x < 256 := by omega
    have e1 : Go.bits .xor .u8 ((s : Int) % 256) (rd l (i : Int)) = ((s % 256 ^^^ x : Nat) : Int) := by
      rw [hrd, hx]
      have := u8_xor_nat (s % 256) x (Nat.mod_lt _ (by decide)) hx2
      rw [← this]; congr 1
    have e2 : s % 256 ^^^ x < 256 := Crc.xor_lt8 _ _ (Nat.mod_lt _ (by decide)) hx2
    have e3 : Go.bits .xor .u32 ((s : Int) / 256) ((Crc.L8 (s % 256 ^^^ x) : Nat) : Int) = ((Crc.step s x : Nat) : Int) := by
      rw [Crc.step_table s x hx2]
      have := u32_xor_nat (s / 256) (Crc.L8 (s % 256 ^^^ x)) (by omega) (Crc.L8_lt _ (by omega))
      rw [← this]; congr 1
    simp only [crc_Step.l0]
    rw [e1, if_pos (by omega), if_pos (by omega), if_pos (by omega), if_pos (by omega), if_pos (by rw [tab_len]; omega), rd_tab _ e2, e3, w64 (by omega) (by omega)]
    have e4 : (i : Int) + 1 = ((i + 1 : Nat) : Int) := by omega
    rw [e4, ih k (Crc.step s x) (i + 1) (Crc.step_lt s x hs hx2) (by omega) (by omega)]
    rw [List.drop_eq_getElem_cons hil]
    unfold nats
    rw [List.map_cons, hx]
    rfl
theorem step_eq (l : List Int) (hl : ∀ x ∈ l, 0 ≤ x ∧ x < 256) (hlen : (l.length : Int) ≤ 1000000) (k s : Nat) (hs : s < 4294967296) (hk : l.length < k) :
    crc_Step.f k tab (s : Int) l = some ((Crc.run s (nats l) : Nat) : Int) := by
  unfold crc_Step.f
  rw [if_pos (by rw [tab_len]; rfl)]
  have := step_loop l hl hlen l.length k s 0 hs (by omega) hk
  simpa using this
theorem sum_eq (l : List Int) (hl : ∀ x ∈ l, 0 ≤ x ∧ x < 256) (hlen : (l.length : Int) ≤ 1000000) (k : Nat) (hk : l.length < k) :
    crc_Sum.f k tab l = some (((Crc.run 4294967295 (nats l)) ^^^ 4294967295 : Nat) : Int) := by
  unfold crc_Sum.f
  rw [if_pos (by rw [tab_len]; rfl)]
  have h := step_eq l hl hlen k 4294967295 (by decide) hk
  have e : ((4294967295 : Nat) : Int) = 4294967295 := rfl
  rw [e] at h
  rw [h, Option.bind_some]
  have := u32_xor_nat 4294967295 (Crc.run 4294967295 (nats l)) (by decide) (Crc.run_lt _ _ (by decide) (nats_lt l hl))
  rw [e] at this
  rw [this, Nat.xor_comm]
theorem xor_all_inj (a b : Nat) (h : a ^^^ 4294967295 = b ^^^ 4294967295) : a = b := by
  have e : a ^^^ 4294967295 ^^^ 4294967295 = b ^^^ 4294967295 ^^^ 4294967295 := by rw [h]
  rwa [Nat.xor_assoc, Nat.xor_self, Nat.xor_zero, Nat.xor_assoc, Nat.xor_self, Nat.xor_zero] at e
theorem CrcParts : bollardlaw03_CrcParts.Pure := by
  intro s a b ws _ _ wa _ _ wb
  have ha : ∀ x ∈ a, 0 ≤ x ∧ x < 256 := fun x hx => bd8 (wa x hx)
  have hb : ∀ x ∈ b, 0 ≤ x ∧ x < 256 := fun x hx => bd8 (wb x hx)
  have hs := bd32 ws
  have hab : ∀ x ∈ a ++ b, 0 ≤ x ∧ x < 256 := by
    intro x hx
    rcases List.mem_append.1 hx with h | h
    · exact ha x h
    · exact hb x h
  refine ⟨a.length + b.length + 2, ?_⟩
  unfold bollardlaw03_CrcParts.f
  rw [awake_eq, Option.bind_some]
  have out : bollardlaw03_CrcParts.j0 (a.length + b.length + 2) s a b true true = some true := by
    simp only [bollardlaw03_CrcParts.j0]; rw [if_pos trivial]
  by_cases h0 : (a.length : Int) > 2000
  · rw [if_pos h0]; exact out
  rw [if_neg h0]
  by_cases h1 : (b.length : Int) > 2000
  · rw [decide_eq_true h1]; exact out
  rw [decide_eq_false h1]
  have n0 : ¬ (false = true) := by decide
  obtain ⟨n, rfl⟩ : ∃ n : Nat, s = (n : Int) := ⟨s.toNat, by omega⟩
  have e1 := step_eq a ha (by omega) (a.length + b.length + 1) n (by omega) (by omega)
  have e2 := step_eq b hb (by omega) (a.length + b.length + 1) (Crc.run n (nats a)) (Crc.run_lt _ _ (by omega) (nats_lt a ha)) (by omega)
  have e3 := step_eq (a ++ b) hab (by rw [List.length_append]; omega) (a.length + b.length + 1) n (by omega) (by rw [List.length_append]; omega)
  simp only [bollardlaw03_CrcParts.j0]
  rw [if_neg n0, table_eq, Option.bind_some, if_pos trivial, e1, Option.bind_some, e2, Option.bind_some, Option.bind_some, if_pos (by simp; omega), Option.bind_some, if_pos (by simp; omega)]
  rw [List.nil_append, e3, Option.bind_some]
  have e4 : nats (a ++ b) = nats a ++ nats b := by unfold nats; rw [List.map_append]
  rw [e4, Crc.run_append]; simp
end Go.Proofs.Ytdmlkjenopmdlaa.Pure
