/- CrcSums: the checksum by the table is what the polynomial alone makes of the octets, for every input. -/
import Derived.Test.YtdmlkjenopmdlaaPCrcSumsx1
import Derived.Laws.BitsAllLaws
namespace Go.Proofs.Ytdmlkjenopmdlaa.Pure
open Go.RowKit Go.Proofs.Ytdmlkjenopmdlaa Go.Proofs.Ytdmlkjenopmdlaa.PCrcSums Go.Proofs.YtdmlkjenopmdlaaW.PrintWords Go.Proofs.YtdmlkjenopmdlaaW.PrintLast Go.Proofs.YtdmlkjenopmdlaaW.PrintMore
set_option linter.unusedVariables false
set_option linter.unusedSimpArgs false
theorem w64 {n : Int} (h : -9223372036854775808 ≤ n) (h2 : n ≤ 9223372036854775807) : wrap64 n = n := IntWalk.wrap64_in n ⟨h, h2⟩
theorem bd8 {a : Int} (h : (Lit.int .u8 a).wf = true) : 0 ≤ a ∧ a < 256 := by
  have hmin : IntKind.u8.min = 0 := rfl
  have hmax : IntKind.u8.max = 255 := rfl
  simp only [Lit.wf, Bool.and_eq_true, decide_eq_true_eq, hmin, hmax] at h
  omega
theorem bd32 {a : Int} (h : (Lit.int .u32 a).wf = true) : 0 ≤ a ∧ a < 4294967296 := by
  have hmin : IntKind.u32.min = 0 := rfl
  have hmax : IntKind.u32.max = 4294967295 := rfl
  simp only [Lit.wf, Bool.and_eq_true, decide_eq_true_eq, hmin, hmax] at h
  omega
theorem awake_eq : bollardlaw03_awake.f = some true := rfl
theorem table_eq : crc_Table.f = some tab := rfl
theorem rd_get (l : List Int) (i : Int) (h0 : 0 ≤ i) (h1 : i < l.length) : ∃ h : i.toNat < l.length, rd l i = l[i.toNat] := by
  have hi : i.toNat < l.length := by omega
  refine ⟨hi, ?_⟩
  unfold rd
  rw [List.getD_eq_getElem?_getD, List.getElem?_eq_getElem hi]; rfl
theorem rd_tab (x : Nat) (hx : x < 256) : rd tab (x : Int) = (Crc.L8 x : Int) := by
  unfold rd tab
  rw [List.getD_eq_getElem?_getD, List.getElem?_map, Int.toNat_natCast, List.getElem?_range hx]; rfl
/-- Octets as natural numbers. -/
def nats (l : List Int) : List Nat := l.map Int.toNat
theorem nats_lt (l : List Int) (hl : ∀ x ∈ l, 0 ≤ x ∧ x < 256) : ∀ x ∈ nats l, x < 256 := by
  intro x hx
  obtain ⟨y, hy, rfl⟩ := List.mem_map.1 hx
  have := hl y hy
  omega
/-- The step over the program's own table. -/
theorem step_loop (l : List Int) (hl : ∀ x ∈ l, 0 ≤ x ∧ x < 256) (hlen : (l.length : Int) ≤ 1000000) (d : Nat) :
    ∀ (k : Nat) (s : Nat) (i : Nat), s < 4294967296 → i + d = l.length → d < k →
    crc_Step.l0 k tab (s : Int) l (l.length : Int) (i : Int) = some ((Crc.run s (nats (l.drop i)) : Nat) : Int) := by
  induction d with
  | zero =>
    intro k s i hs hi hk
    obtain ⟨k, rfl⟩ : ∃ m, k = m + 1 := ⟨k - 1, by omega⟩
    simp only [crc_Step.l0]
    rw [if_neg (by omega), List.drop_of_length_le (by omega)]
    rfl
  | succ d ih =>
    intro k s i hs hi hk
    obtain ⟨k, rfl⟩ : ∃ m, k = m + 1 := ⟨k - 1, by omega⟩
    have hil : i < l.length := by omega
    obtain ⟨_, hrd⟩ := rd_get l (i : Int) (by omega) (by omega)
    simp only [Int.toNat_natCast] at hrd
    obtain ⟨x0, x1⟩ := hl _ (List.getElem_mem hil)
    obtain ⟨x, hx⟩ : ∃ x : Nat, l[i] = (x : Int) := ⟨l[i].toNat, by omega⟩
    have hx2 : x < 256 := by omega
    have e1 : Go.bits .xor .u8 ((s : Int) % 256) (rd l (i : Int)) = ((s % 256 ^^^ x : Nat) : Int) := by
      rw [hrd, hx]
      have := u8_xor_nat (s % 256) x (Nat.mod_lt _ (by decide)) hx2
      rw [← this]; congr 1
    have e2 : s % 256 ^^^ x < 256 := Crc.xor_lt8 _ _ (Nat.mod_lt _ (by decide)) hx2
    have e3 : Go.bits .xor .u32 ((s : Int) / 256) ((Crc.L8 (s % 256 ^^^ x) : Nat) : Int) = ((Crc.step s x : Nat) : Int) := by
      rw [Crc.step_table s x hx2]
      have := u32_xor_nat (s / 256) (Crc.L8 (s % 256 ^^^ x)) (by omega) (Crc.L8_lt _ (by omega))
      rw [← this]; congr 1
    simp only [crc_Step.l0]
    rw [e1, if_pos (by omega), if_pos (by omega), if_pos (by omega), if_pos (by omega), if_pos (by rw [tab_len]; omega), rd_tab _ e2, e3, w64 (by omega) (by omega)]
    have e4 : (i : Int) + 1 = ((i + 1 : Nat) : Int) := by omega
    rw [e4, ih k (Crc.step s x) (i + 1) (Crc.step_lt s x hs hx2) (by omega) (by omega)]
    rw [List.drop_eq_getElem_cons hil]
    unfold nats
    rw [List.map_cons, hx]
    rfl
theorem step_eq (l : List Int) (hl : ∀ x ∈ l, 0 ≤ x ∧ x < 256) (hlen : (l.length : Int) ≤ 1000000) (k s : Nat) (hs : s < 4294967296) (hk : l.length < k) :
    crc_Step.f k tab (s : Int) l = some ((Crc.run s (nats l) : Nat) : Int) := by
  unfold crc_Step.f
  rw [if_pos (by rw [tab_len]; rfl)]
  have := step_loop l hl hlen l.length k s 0 hs (by omega) hk
  simpa using this
theorem sum_eq (l : List Int) (hl : ∀ x ∈ l, 0 ≤ x ∧ x < 256) (hlen : (l.length : Int) ≤ 1000000) (k : Nat) (hk : l.length < k) :
    crc_Sum.f k tab l = some (((Crc.run 4294967295 (nats l)) ^^^ 4294967295 : Nat) : Int) := by
  unfold crc_Sum.f
  rw [if_pos (by rw [tab_len]; rfl)]
  have h := step_eq l hl hlen k 4294967295 (by decide) hk
  have e : ((4294967295 : Nat) : Int) = 4294967295 := rfl
  rw [e] at h
  rw [h, Option.bind_some]
  have := u32_xor_nat 4294967295 (Crc.run 4294967295 (nats l)) (by decide) (Crc.run_lt _ _ (by decide) (nats_lt l hl))
  rw [e] at this
  rw [this, Nat.xor_comm]
theorem xor_all_inj (a b : Nat) (h : a ^^^ 4294967295 = b ^^^ 4294967295) : a = b := by
  have e : a ^^^ 4294967295 ^^^ 4294967295 = b ^^^ 4294967295 ^^^ 4294967295 := by rw [h]
  rwa [Nat.xor_assoc, Nat.xor_self, Nat.xor_zero, Nat.xor_assoc, Nat.xor_self, Nat.xor_zero] at e
theorem bit_eq (v : Nat) (h : v < 4294967296) : bollardref03_bit.f (v : Int) = some ((Crc.L v : Nat) : Int) := by
  unfold bollardref03_bit.f Crc.L
  have e1 : Int.tmod (v : Int) 2 = ((v % 2 : Nat) : Int) := by rw [Int.tmod_eq_emod_of_nonneg (by omega)]; omega
  have e2 : Int.tdiv (v : Int) 2 % 4294967296 = ((v / 2 : Nat) : Int) := by rw [Int.tdiv_eq_ediv_of_nonneg (by omega)]; omega
  rw [e1, e2]
  by_cases hv : v % 2 = 1
  · rw [if_pos (by omega), if_pos hv]
    have := u32_xor_nat (v / 2) 2197175160 (by omega) (by decide)
    rw [show ((2197175160 : Nat) : Int) = 2197175160 from rfl] at this
    rw [this]
  · rw [if_neg (by omega), if_neg hv, Nat.xor_zero]
theorem l1_step (k : Nat) (l : List Int) (v : Nat) (i : Int) (j : Nat) (hv : v < 4294967296) (hj : j < 8) :
    bollardref03_Own.l1 (k + 1) l (v : Int) i (j : Int) = bollardref03_Own.l1 k l ((Crc.L v : Nat) : Int) i ((j + 1 : Nat) : Int) := by
  simp only [bollardref03_Own.l1]
  rw [if_pos (by omega), bit_eq v hv, Option.bind_some, w64 (by omega) (by omega)]
  rfl
theorem l1_end (k : Nat) (l : List Int) (v : Int) (i : Int) : bollardref03_Own.l1 (k + 1) l v i 8 = bollardref03_Own.l0 k l v (wrap64 (i + 1)) := by
  simp only [bollardref03_Own.l1]
  rw [if_neg (by omega)]
theorem l1_all (k : Nat) (l : List Int) (v : Nat) (i : Int) (hv : v < 4294967296) :
    bollardref03_Own.l1 (k + 9) l (v : Int) i 0 = bollardref03_Own.l0 k l ((Crc.L8 v : Nat) : Int) (wrap64 (i + 1)) := by
  have h1 := Crc.L_lt v hv; have h2 := Crc.L_lt _ h1; have h3 := Crc.L_lt _ h2; have h4 := Crc.L_lt _ h3
  have h5 := Crc.L_lt _ h4; have h6 := Crc.L_lt _ h5; have h7 := Crc.L_lt _ h6
  have s0 := l1_step (k + 8) l v i 0 hv (by decide)
  have s1 := l1_step (k + 7) l _ i 1 h1 (by decide)
  have s2 := l1_step (k + 6) l _ i 2 h2 (by decide)
  have s3 := l1_step (k + 5) l _ i 3 h3 (by decide)
  have s4 := l1_step (k + 4) l _ i 4 h4 (by decide)
  have s5 := l1_step (k + 3) l _ i 5 h5 (by decide)
  have s6 := l1_step (k + 2) l _ i 6 h6 (by decide)
  have s7 := l1_step (k + 1) l _ i 7 h7 (by decide)
  have s8 := l1_end k l (((Crc.L8 v : Nat)) : Int) i
  exact s0.trans (s1.trans (s2.trans (s3.trans (s4.trans (s5.trans (s6.trans (s7.trans s8)))))))
theorem own_loop (l : List Int) (hl : ∀ x ∈ l, 0 ≤ x ∧ x < 256) (hlen : (l.length : Int) ≤ 1000000) (d : Nat) :
    ∀ (k v i : Nat), v < 4294967296 → i + d = l.length → 10 * d < k →
    bollardref03_Own.l0 k l (v : Int) (i : Int) = some (((Crc.run v (nats (l.drop i))) ^^^ 4294967295 : Nat) : Int) := by
  induction d with
  | zero =>
    intro k v i hv hi hk
    obtain ⟨k, rfl⟩ : ∃ m, k = m + 1 := ⟨k - 1, by omega⟩
    simp only [bollardref03_Own.l0]
    rw [if_neg (by omega), List.drop_of_length_le (by omega)]
    have := u32_xor_nat v 4294967295 hv (by decide)
    rw [show ((4294967295 : Nat) : Int) = 4294967295 from rfl] at this
    rw [this]; rfl
  | succ d ih =>
    intro k v i hv hi hk
    obtain ⟨k, rfl⟩ : ∃ m, k = m + 9 + 1 := ⟨k - 10, by omega⟩
    have hil : i < l.length := by omega
    obtain ⟨_, hrd⟩ := rd_get l (i : Int) (by omega) (by omega)
    simp only [Int.toNat_natCast] at hrd
    obtain ⟨x0, x1⟩ := hl _ (List.getElem_mem hil)
    obtain ⟨x, hx⟩ : ∃ x : Nat, l[i] = (x : Int) := ⟨l[i].toNat, by omega⟩
    have hx2 : x < 256 := by omega
    have e1 : Go.bits .xor .u32 (v : Int) (rd l (i : Int) % 4294967296) = ((v ^^^ x : Nat) : Int) := by
      rw [hrd, hx]
      have := u32_xor_nat v x hv (by omega)
      rw [← this]; congr 1; omega
    have hlt := Crc.xor_lt v x hv (by omega)
    simp only [bollardref03_Own.l0]
    rw [if_pos (by omega), if_pos (by omega), e1, l1_all k l _ _ hlt, w64 (by omega) (by omega)]
    have e4 : (i : Int) + 1 = ((i + 1 : Nat) : Int) := by omega
    rw [e4, ih k (Crc.L8 (v ^^^ x)) (i + 1) (Crc.L8_lt _ hlt) (by omega) (by omega)]
    rw [List.drop_eq_getElem_cons hil]
    unfold nats
    rw [List.map_cons, hx]
    rfl
theorem CrcSums : bollardlaw03_CrcSums.Pure := by
  intro l _ _ wl
  have hl : ∀ x ∈ l, 0 ≤ x ∧ x < 256 := fun x hx => bd8 (wl x hx)
  refine ⟨10 * l.length + 1, ?_⟩
  unfold bollardlaw03_CrcSums.f
  rw [awake_eq, Option.bind_some]
  by_cases h : (l.length : Int) > 3000
  · rw [if_pos h]
  · rw [if_neg h, if_pos rfl, table_eq, Option.bind_some, sum_eq l hl (by omega) _ (by omega), Option.bind_some]
    have := own_loop l hl (by omega) l.length (10 * l.length + 1) 4294967295 0 (by decide) (by omega) (by omega)
    unfold bollardref03_Own.f
    rw [show ((4294967295 : Nat) : Int) = 4294967295 from rfl, show ((0 : Nat) : Int) = 0 from rfl] at this
    rw [this, Option.bind_some]; simp
end Go.Proofs.Ytdmlkjenopmdlaa.Pure
