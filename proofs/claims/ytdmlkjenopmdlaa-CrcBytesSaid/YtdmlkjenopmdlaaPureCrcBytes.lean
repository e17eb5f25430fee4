/- CrcBytes: two texts that differ in one octet alone have not one checksum, for every input. -/
import Derived.Test.YtdmlkjenopmdlaaPCrcBytesx1
import Derived.Laws.BitsAllLaws
namespace Go.Proofs.Ytdmlkjenopmdlaa.Pure
open Go.RowKit Go.Proofs.Ytdmlkjenopmdlaa Go.Proofs.Ytdmlkjenopmdlaa.PCrcBytes Go.Proofs.YtdmlkjenopmdlaaW.PrintWords Go.Proofs.YtdmlkjenopmdlaaW.PrintLast Go.Proofs.YtdmlkjenopmdlaaW.PrintMore
set_option linter.unusedVariables false
set_option linter.unusedSimpArgs false
theorem w64 {n : Int} (h : -9223372036854775808 ≤ n) (h2 : n ≤ 9223372036854775807) : wrap64 n = n := IntWalk.wrap64_in n ⟨h, h2⟩
theorem bd8 {a : Int} (h : (Lit.int .u8 a).wf = true) : 0 ≤ a ∧ a < 256 := by
  have hmin : IntKind.u8.min = 0 := rfl
  have hmax : IntKind.u8.max = 255 := rfl
  simp only [Lit.wf, Bool.and_eq_true, decide_eq_true_eq, hmin, hmax] at h
  omega
theorem bd32 {a : Int} (h : (Lit.int .u32 a).wf = true) : 0 ≤ a ∧ a < 4294967296 := by
  have hmin : IntKind.u32.min = 0 := rfl
  have hmax : IntKind.u32.max = 4294967295 := rfl
  simp only [Lit.wf, Bool.and_eq_true, decide_eq_true_eq, hmin, hmax] at h
  omega
theorem awake_eq : bollardlaw03_awake.f = some true := rfl
theorem table_eq : crc_Table.f = some tab := rfl
theorem rd_get (l : List Int) (i : Int) (h0 : 0 ≤ i) (h1 : i < l.length) : ∃ h : i.toNat < l.length, rd l i = l[i.toNat] := by
  have hi : i.toNat < l.length := by omega
  refine ⟨hi, ?_⟩
  unfold rd
  rw [List.getD_eq_getElem?_getD, List.getElem?_eq_getElem hi]; rfl
theorem rd_tab (x : Nat) (hx : x < 256) : rd tab (x : Int) = (Crc.L8 x : Int) := by
  unfold rd tab
  rw [List.getD_eq_getElem?_getD, List.getElem?_map, Int.toNat_natCast, List.getElem?_range hx]; rfl
/-- Octets as natural numbers. -/
def nats (l : List Int) : List Nat := l.map Int.toNat
theorem nats_lt (l : List Int) (hl : ∀ x ∈ l, 0 ≤ x ∧ x < 256) : ∀ x ∈ nats l, x < 256 := by
  intro x hx
  obtain ⟨y, hy, rfl⟩ := List.mem_map.1 hx
  have := hl y hy
  omega
/-- The step over the program's own table. -/
theorem step_loop (l : List Int) (hl : ∀ x ∈ l, 0 ≤ x ∧ x < 256) (hlen : (l.length : Int) ≤ 1000000) (d : Nat) :
    ∀ (k : Nat) (s : Nat) (i : Nat), s < 4294967296 → i + d = l.length → d < k →
    crc_Step.l0 k tab (s : Int) l (l.length : Int) (i : Int) = some ((Crc.run s (nats (l.drop i)) : Nat) : Int) := by
  induction d with
  | zero =>
    intro k s i hs hi hk
    obtain ⟨k, rfl⟩ : ∃ m, k = m + 1 := ⟨k - 1, by omega⟩
    simp only [crc_Step.l0]
    rw [if_neg (by omega), List.drop_of_length_le (by omega)]
    rfl
  | succ d ih =>
    intro k s i hs hi hk
    obtain ⟨k, rfl⟩ : ∃ m, k = m + 1 := ⟨k - 1, by omega⟩
    have hil : i < l.length := by omega
    obtain ⟨_, hrd⟩ := rd_get l (i : Int) (by omega) (by omega)
    simp only [Int.toNat_natCast] at hrd
    obtain ⟨x0, x1⟩ := hl _ (List.getElem_mem hil)
    obtain ⟨x, hx⟩ : ∃ x : Nat, l[i] = (x : Int) := ⟨l[i].toNat, by omega⟩
    have hx2 : x < 256 := by omega
    have e1 : Go.bits .xor .u8 ((s : Int) % 256) (rd l (i : Int)) = ((s % 256 ^^^ x : Nat) : Int) := by
      rw [hrd, hx]
      have := u8_xor_nat (s % 256) x (Nat.mod_lt _ (by decide)) hx2
      rw [← this]; congr 1
    have e2 : s % 256 ^^^ x < 256 := Crc.xor_lt8 _ _ (Nat.mod_lt _ (by decide)) hx2
    have e3 : Go.bits .xor .u32 ((s : Int) / 256) ((Crc.L8 (s % 256 ^^^ x) : Nat) : Int) = ((Crc.step s x : Nat) : Int) := by
      rw [Crc.step_table s x hx2]
      have := u32_xor_nat (s / 256) (Crc.L8 (s % 256 ^^^ x)) (by omega) (Crc.L8_lt _ (by omega))
      rw [← this]; congr 1
    simp only [crc_Step.l0]
    rw [e1, if_pos (by omega), if_pos (by omega), if_pos (by omega), if_pos (by omega), if_pos (by rw [tab_len]; omega), rd_tab _ e2, e3, w64 (by omega) (by omega)]
    have e4 : (i : Int) + 1 = ((i + 1 : Nat) : Int) := by omega
    rw [e4, ih k (Crc.step s x) (i + 1) (Crc.step_lt s x hs hx2) (by omega) (by omega)]
    rw [List.drop_eq_getElem_cons hil]
    unfold nats
    rw [List.map_cons, hx]
    rfl
theorem step_eq (l : List Int) (hl : ∀ x ∈ l, 0 ≤ x ∧ x < 256) (hlen : (l.length : Int) ≤ 1000000) (k s : Nat) (hs : s < 4294967296) (hk : l.length < k) :
    crc_Step.f k tab (s : Int) l = some ((Crc.run s (nats l) : Nat) : Int) := by
  unfold crc_Step.f
  rw [if_pos (by rw [tab_len]; rfl)]
  have := step_loop l hl hlen l.length k s 0 hs (by omega) hk
  simpa using this
theorem sum_eq (l : List Int) (hl : ∀ x ∈ l, 0 ≤ x ∧ x < 256) (hlen : (l.length : Int) ≤ 1000000) (k : Nat) (hk : l.length < k) :
    crc_Sum.f k tab l = some (((Crc.run 4294967295 (nats l)) ^^^ 4294967295 : Nat) : Int) := by
  unfold crc_Sum.f
  rw [if_pos (by rw [tab_len]; rfl)]
  have h := step_eq l hl hlen k 4294967295 (by decide) hk
  have e : ((4294967295 : Nat) : Int) = 4294967295 := rfl
  rw [e] at h
  rw [h, Option.bind_some]
  have := u32_xor_nat 4294967295 (Crc.run 4294967295 (nats l)) (by decide) (Crc.run_lt _ _ (by decide) (nats_lt l hl))
  rw [e] at this
  rw [this, Nat.xor_comm]
theorem xor_all_inj (a b : Nat) (h : a ^^^ 4294967295 = b ^^^ 4294967295) : a = b := by
  have e : a ^^^ 4294967295 ^^^ 4294967295 = b ^^^ 4294967295 ^^^ 4294967295 := by rw [h]
  rwa [Nat.xor_assoc, Nat.xor_self, Nat.xor_zero, Nat.xor_assoc, Nat.xor_self, Nat.xor_zero] at e
theorem and16 (n : Int) : Go.bits .and .i64 n 65535 = n % 65536 := by
  have hm : (BitVec.ofInt 64 65535).toNat = 2 ^ 16 - 1 := by decide
  have key : (BitVec.ofInt 64 n &&& BitVec.ofInt 64 65535).toNat = (n % ((2 ^ 64 : Nat) : Int)).toNat % 2 ^ 16 := by
    rw [BitVec.toNat_and, BitVec.toNat_ofInt, hm, Nat.and_two_pow_sub_one_eq_mod]
  show IntKind.i64.wrap ((BitVec.ofInt 64 n &&& BitVec.ofInt 64 65535).toNat : Nat) = n % 65536
  rw [key, IntKind.wrap_i64]
  omega
theorem nats_app (a b : List Int) : nats (a ++ b) = nats a ++ nats b := by unfold nats; rw [List.map_append]
theorem rd_app (p r : List Int) (j : Nat) : rd (p ++ r) ((p.length : Int) + (j : Int)) = rd r (j : Int) := by
  unfold rd
  have e : ((p.length : Int) + (j : Int)).toNat = p.length + j := by omega
  rw [e, List.getD_eq_getElem?_getD, List.getD_eq_getElem?_getD, List.getElem?_append_right (by omega)]
  simp
theorem set_app (p r : List Int) (j : Nat) (v : Int) : (p ++ r).set ((p.length : Int) + (j : Int)).toNat v = p ++ r.set j v := by
  have e : ((p.length : Int) + (j : Int)).toNat = p.length + j := by omega
  rw [e, List.set_append_right _ _ (by omega)]
  simp
theorem CrcBytes : bollardlaw03_CrcBytes.Pure := by
  intro b at_ y _ _ wb _ wy
  have hb : ∀ x ∈ b, 0 ≤ x ∧ x < 256 := fun x hx => bd8 (wb x hx)
  have hy := bd8 wy
  refine ⟨b.length + 2, ?_⟩
  unfold bollardlaw03_CrcBytes.f
  rw [awake_eq, Option.bind_some]
  have out : bollardlaw03_CrcBytes.j0 (b.length + 2) b at_ y true true = some true := by
    simp only [bollardlaw03_CrcBytes.j0]; rw [if_pos trivial]
  by_cases h0 : (b.length : Int) = 0
  · rw [if_pos h0]; exact out
  rw [if_neg h0]
  by_cases h1 : (b.length : Int) > 2000
  · rw [if_pos h1]; exact out
  rw [if_neg h1]
  by_cases h2 : y = 0
  · have : (y == 0) = true := by rw [h2]; rfl
    rw [this]; exact out
  have hy0 : (y == 0) = false := by simpa using h2
  rw [hy0]
  have n0 : ¬ (false = true) := by decide
  have m0 := Int.emod_nonneg (at_ % 65536) (b := (b.length : Int)) h0
  have m1 := Int.emod_lt_of_pos (at_ % 65536) (b := (b.length : Int)) (by omega)
  have em : Int.tmod (Go.bits .and .i64 at_ 65535) (b.length : Int) = at_ % 65536 % (b.length : Int) := by
    rw [and16, Int.tmod_eq_emod_of_nonneg (by omega)]
  obtain ⟨i, hi⟩ : ∃ i : Nat, at_ % 65536 % (b.length : Int) = (i : Int) := ⟨(at_ % 65536 % (b.length : Int)).toNat, by omega⟩
  rw [hi] at em m0 m1
  have hil : i < b.length := by omega
  simp only [bollardlaw03_CrcBytes.j0]
  rw [if_neg n0, Option.bind_some, List.nil_append, if_pos (by simp; omega), Option.bind_some, if_neg h0, em, if_pos m0, if_pos m1, table_eq, Option.bind_some, if_pos trivial]
  obtain ⟨p, x, q, hbs, hp⟩ : ∃ p x q, b = p ++ x :: q ∧ p.length = i := ⟨b.take i, b[i], b.drop (i + 1), by rw [← List.drop_eq_getElem_cons hil, List.take_append_drop], by simp; omega⟩
  have hx := hb x (by rw [hbs]; simp)
  have e1 : (i : Int) = (p.length : Int) + ((0 : Nat) : Int) := by omega
  have er : rd b (i : Int) = x := by rw [hbs, e1, rd_app]; rfl
  have ex := u8_xor x y hx.1 hx.2 hy.1 hy.2
  have hlt := Crc.xor_lt8 x.toNat y.toNat (by omega) (by omega)
  have es : b.set ((i : Int)).toNat (Go.bits .xor .u8 x y) = p ++ (Go.bits .xor .u8 x y) :: q := by
    rw [hbs, e1, set_app]; rfl
  rw [er, es]
  have hc : ∀ z ∈ p ++ (Go.bits .xor .u8 x y) :: q, 0 ≤ z ∧ z < 256 := by
    intro z hz
    rcases List.mem_append.1 hz with h | h
    · exact hb z (by rw [hbs]; simp [h])
    · rcases List.mem_cons.1 h with rfl | h
      · rw [ex]; omega
      · exact hb z (by rw [hbs]; simp [h])
  have lc : (p ++ (Go.bits .xor .u8 x y) :: q).length = b.length := by rw [hbs]; simp
  rw [sum_eq b hb (by omega) _ (by omega), Option.bind_some, sum_eq _ hc (by omega) _ (by omega), Option.bind_some]
  congr 1
  rw [bne_iff_ne]
  intro e
  have e' := xor_all_inj _ _ (Int.ofNat.inj e)
  rw [hbs, nats_app, nats_app, Crc.run_append, Crc.run_append] at e'
  have hpn := nats_lt p (fun z hz => hb z (by rw [hbs]; simp [hz]))
  have hqn := nats_lt q (fun z hz => hb z (by rw [hbs]; simp [hz]))
  have s0 := Crc.run_lt (nats p) 4294967295 (by decide) hpn
  generalize Crc.run 4294967295 (nats p) = s at e' s0
  have c1 : nats (x :: q) = x.toNat :: nats q := rfl
  have c2 : nats (Go.bits .xor .u8 x y :: q) = (x.toNat ^^^ y.toNat) :: nats q := by
    show (Go.bits .xor .u8 x y).toNat :: nats q = _
    rw [ex, Int.toNat_natCast]
  rw [c1, c2] at e'
  have e2 : Crc.step s x.toNat = Crc.step s (x.toNat ^^^ y.toNat) := Crc.run_inj (nats q) _ _ (Crc.step_lt s _ s0 (by omega)) (Crc.step_lt s _ s0 hlt) hqn e'
  have e3 := Crc.L8_inj _ _ (Crc.xor_lt s _ s0 (by omega)) (Crc.xor_lt s _ s0 (by omega)) e2
  have e4 : y.toNat = 0 := by
    have := congrArg (fun z => (s ^^^ x.toNat) ^^^ z) e3
    simp only [Nat.xor_self] at this
    rw [← Nat.xor_assoc s, ← Nat.xor_assoc (s ^^^ x.toNat), Nat.xor_self, Nat.zero_xor] at this
    exact this.symm
  omega
end Go.Proofs.Ytdmlkjenopmdlaa.Pure
