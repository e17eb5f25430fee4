/- CrcBursts: a burst in four neighbouring octets is found by the checksum, for every input. -/
import Derived.Test.YtdmlkjenopmdlaaPCrcBurstsx1
import Derived.Laws.BitsAllLaws
namespace Go.Proofs.Ytdmlkjenopmdlaa.Pure
open Go.RowKit Go.Proofs.Ytdmlkjenopmdlaa Go.Proofs.Ytdmlkjenopmdlaa.PCrcBursts Go.Proofs.YtdmlkjenopmdlaaW.PrintWords Go.Proofs.YtdmlkjenopmdlaaW.PrintLast Go.Proofs.YtdmlkjenopmdlaaW.PrintMore
set_option linter.unusedVariables false
set_option linter.unusedSimpArgs false
theorem w64 {n : Int} (h : -9223372036854775808 ≤ n) (h2 : n ≤ 9223372036854775807) : wrap64 n = n := IntWalk.wrap64_in n ⟨h, h2⟩
theorem bd8 {a : Int} (h : (Lit.int .u8 a).wf = true) : 0 ≤ a ∧ a < 256 := by
  have hmin : IntKind.u8.min = 0 := rfl
  have hmax : IntKind.u8.max = 255 := rfl
  simp only [Lit.wf, Bool.and_eq_true, decide_eq_true_eq, hmin, hmax] at h
  omega
theorem bd32 {a : Int} (h : (Lit.int .u32 a).wf = true) : 0 ≤ a ∧ a < 4294967296 := by
  have hmin : IntKind.u32.min = 0 := rfl
  have hmax : IntKind.u32.max = 4294967295 := rfl
  simp only [Lit.wf, Bool.and_eq_true, decide_eq_true_eq, hmin, hmax] at h
  omega
theorem awake_eq : bollardlaw03_awake.f = some true := rfl
theorem table_eq : crc_Table.f = some tab := rfl
theorem rd_get (l : List Int) (i : Int) (h0 : 0 ≤ i) (h1 : i < l.length) : ∃ h : i.toNat < l.length, rd l i = l[i.toNat] := by
  have hi : i.toNat < l.length := by omega
  refine ⟨hi, ?_⟩
  unfold rd
  rw [List.getD_eq_getElem?_getD, List.getElem?_eq_getElem hi]; rfl
theorem rd_tab (x : Nat) (hx : x < 256) : rd tab (x : Int) = (Crc.L8 x : Int) := by
  unfold rd tab
  rw [List.getD_eq_getElem?_getD, List.getElem?_map, Int.toNat_natCast, List.getElem?_range hx]; rfl
/-- Octets as natural numbers. -/
def nats (l : List Int) : List Nat := l.map Int.toNat
theorem nats_lt (l : List Int) (hl : ∀ x ∈ l, 0 ≤ x ∧ x < 256) : ∀ x ∈ nats l, x < 256 := by
  intro x hx
  obtain ⟨y, hy, rfl⟩ := List.mem_map.1 hx
  have := hl y hy
  omega
/-- The step over the program's own table. -/
theorem step_loop (l : List Int) (hl : ∀ x ∈ l, 0 ≤ x ∧ x < 256) (hlen : (l.length : Int) ≤ 1000000) (d : Nat) :
    ∀ (k : Nat) (s : Nat) (i : Nat), s < 4294967296 → i + d = l.length → d < k →
    crc_Step.l0 k tab (s : Int) l (l.length : Int) (i : Int) = some ((Crc.run s (nats (l.drop i)) : Nat) : Int) := by
  induction d with
  | zero =>
    intro k s i hs hi hk
    obtain ⟨k, rfl⟩ : ∃ m, k = m + 1 := ⟨k - 1, by omega⟩
    simp only [crc_Step.l0]
    rw [if_neg (by omega), List.drop_of_length_le (by omega)]
    rfl
  | succ d ih =>
    intro k s i hs hi hk
    obtain ⟨k, rfl⟩ : ∃ m, k = m + 1 := ⟨k - 1, by omega⟩
    have hil : i < l.length := by omega
    obtain ⟨_, hrd⟩ := rd_get l (i : Int) (by omega) (by omega)
    simp only [Int.toNat_natCast] at hrd
    obtain ⟨x0, x1⟩ := hl _ (List.getElem_mem hil)
    obtain ⟨x, hx⟩ : ∃ x : Nat, l[i] = (x : Int) := ⟨l[i].toNat, by omega⟩
    have hx2 : x < 256 := by omega
    have e1 : Go.bits .xor .u8 ((s : Int) % 256) (rd l (i : Int)) = ((s % 256 ^^^ x : Nat) : Int) := by
      rw [hrd, hx]
      have := u8_xor_nat (s % 256) x (Nat.mod_lt _ (by decide)) hx2
      rw [← this]; congr 1
    have e2 : s % 256 ^^^ x < 256 := Crc.xor_lt8 _ _ (Nat.mod_lt _ (by decide)) hx2
    have e3 : Go.bits .xor .u32 ((s : Int) / 256) ((Crc.L8 (s % 256 ^^^ x) : Nat) : Int) = ((Crc.step s x : Nat) : Int) := by
      rw [Crc.step_table s x hx2]
      have := u32_xor_nat (s / 256) (Crc.L8 (s % 256 ^^^ x)) (by omega) (Crc.L8_lt _ (by omega))
      rw [← this]; congr 1
    simp only [crc_Step.l0]
    rw [e1, if_pos (by omega), if_pos (by omega), if_pos (by omega), if_pos (by omega), if_pos (by rw [tab_len]; omega), rd_tab _ e2, e3, w64 (by omega) (by omega)]
    have e4 : (i : Int) + 1 = ((i + 1 : Nat) : Int) := by omega
    rw [e4, ih k (Crc.step s x) (i + 1) (Crc.step_lt s x hs hx2) (by omega) (by omega)]
    rw [List.drop_eq_getElem_cons hil]
    unfold nats
    rw [List.map_cons, hx]
    rfl
theorem step_eq (l : List Int) (hl : ∀ x ∈ l, 0 ≤ x ∧ x < 256) (hlen : (l.length : Int) ≤ 1000000) (k s : Nat) (hs : s < 4294967296) (hk : l.length < k) :
    crc_Step.f k tab (s : Int) l = some ((Crc.run s (nats l) : Nat) : Int) := by
  unfold crc_Step.f
  rw [if_pos (by rw [tab_len]; rfl)]
  have := step_loop l hl hlen l.length k s 0 hs (by omega) hk
  simpa using this
theorem sum_eq (l : List Int) (hl : ∀ x ∈ l, 0 ≤ x ∧ x < 256) (hlen : (l.length : Int) ≤ 1000000) (k : Nat) (hk : l.length < k) :
    crc_Sum.f k tab l = some (((Crc.run 4294967295 (nats l)) ^^^ 4294967295 : Nat) : Int) := by
  unfold crc_Sum.f
  rw [if_pos (by rw [tab_len]; rfl)]
  have h := step_eq l hl hlen k 4294967295 (by decide) hk
  have e : ((4294967295 : Nat) : Int) = 4294967295 := rfl
  rw [e] at h
  rw [h, Option.bind_some]
  have := u32_xor_nat 4294967295 (Crc.run 4294967295 (nats l)) (by decide) (Crc.run_lt _ _ (by decide) (nats_lt l hl))
  rw [e] at this
  rw [this, Nat.xor_comm]
theorem xor_all_inj (a b : Nat) (h : a ^^^ 4294967295 = b ^^^ 4294967295) : a = b := by
  have e : a ^^^ 4294967295 ^^^ 4294967295 = b ^^^ 4294967295 ^^^ 4294967295 := by rw [h]
  rwa [Nat.xor_assoc, Nat.xor_self, Nat.xor_zero, Nat.xor_assoc, Nat.xor_self, Nat.xor_zero] at e
theorem and16 (n : Int) : Go.bits .and .i64 n 65535 = n % 65536 := by
  have hm : (BitVec.ofInt 64 65535).toNat = 2 ^ 16 - 1 := by decide
  have key : (BitVec.ofInt 64 n &&& BitVec.ofInt 64 65535).toNat = (n % ((2 ^ 64 : Nat) : Int)).toNat % 2 ^ 16 := by
    rw [BitVec.toNat_and, BitVec.toNat_ofInt, hm, Nat.and_two_pow_sub_one_eq_mod]
  show IntKind.i64.wrap ((BitVec.ofInt 64 n &&& BitVec.ofInt 64 65535).toNat : Nat) = n % 65536
  rw [key, IntKind.wrap_i64]
  omega
theorem nats_app (a b : List Int) : nats (a ++ b) = nats a ++ nats b := by unfold nats; rw [List.map_append]
theorem rd_app (p r : List Int) (j : Nat) : rd (p ++ r) ((p.length : Int) + (j : Int)) = rd r (j : Int) := by
  unfold rd
  have e : ((p.length : Int) + (j : Int)).toNat = p.length + j := by omega
  rw [e, List.getD_eq_getElem?_getD, List.getD_eq_getElem?_getD, List.getElem?_append_right (by omega)]
  simp
theorem set_app (p r : List Int) (j : Nat) (v : Int) : (p ++ r).set ((p.length : Int) + (j : Int)).toNat v = p ++ r.set j v := by
  have e : ((p.length : Int) + (j : Int)).toNat = p.length + j := by omega
  rw [e, List.set_append_right _ _ (by omega)]
  simp
theorem shr_eq (d : Nat) (hd : d < 4294967296) (j : Nat) (hj : j < 4) : shr .u32 (d : Int) (IntKind.u64.wrap (wrap64 (8 * (j : Int)))) % 256 = ((d / 2 ^ (8 * j) % 256 : Nat) : Int) := by
  rw [w64 (by omega) (by omega)]
  have e : IntKind.u64.wrap (8 * (j : Int)) = ((8 * j : Nat) : Int) := by rw [IntKind.wrap_u64]; omega
  rw [e]
  unfold shr
  have e2 : min (((8 * j : Nat) : Int)).toNat IntKind.u32.bits = 8 * j := by
    have : IntKind.u32.bits = 32 := rfl
    rw [this]; omega
  rw [e2]
  have e3 : (2 : Int) ^ (8 * j) = ((2 ^ (8 * j) : Nat) : Int) := by simp
  rw [e3]; omega
theorem sh0 (j : Nat) : 0 ≤ IntKind.u64.wrap (wrap64 (8 * (j : Int))) := by rw [IntKind.wrap_u64]; omega
theorem CrcBursts : bollardlaw03_CrcBursts.Pure := by
  intro b at_ y _ _ wb _ wy
  have hb : ∀ x ∈ b, 0 ≤ x ∧ x < 256 := fun x hx => bd8 (wb x hx)
  have hy := bd32 wy
  refine ⟨b.length + 8, ?_⟩
  unfold bollardlaw03_CrcBursts.f
  rw [awake_eq, Option.bind_some]
  have out : bollardlaw03_CrcBursts.j0 (b.length + 8) b at_ y true true = some true := by
    simp only [bollardlaw03_CrcBursts.j0]; rw [if_pos trivial]
  by_cases h0 : (b.length : Int) < 4
  · rw [if_pos h0]; exact out
  rw [if_neg h0]
  by_cases h1 : (b.length : Int) > 2000
  · rw [if_pos h1]; exact out
  rw [if_neg h1]
  by_cases h2 : y = 0
  · have : (y == 0) = true := by rw [h2]; rfl
    rw [this]; exact out
  have hy0 : (y == 0) = false := by simpa using h2
  rw [hy0]
  have n0 : ¬ (false = true) := by decide
  have m0 := Int.emod_nonneg (at_ % 65536) (b := (b.length : Int) - 3) (by omega)
  have m1 := Int.emod_lt_of_pos (at_ % 65536) (b := (b.length : Int) - 3) (by omega)
  have em : Int.tmod (Go.bits .and .i64 at_ 65535) (wrap64 ((b.length : Int) - 3)) = at_ % 65536 % ((b.length : Int) - 3) := by
    rw [and16, Int.tmod_eq_emod_of_nonneg (by omega), w64 (by omega) (by omega)]
  obtain ⟨i, hi⟩ : ∃ i : Nat, at_ % 65536 % ((b.length : Int) - 3) = (i : Int) := ⟨(at_ % 65536 % ((b.length : Int) - 3)).toNat, by omega⟩
  rw [hi] at em m0 m1
  have hil : i + 3 < b.length := by omega
  obtain ⟨d, rfl⟩ : ∃ d : Nat, y = (d : Int) := ⟨y.toNat, by omega⟩
  have hd : d < 4294967296 := by omega
  obtain ⟨p, x0, x1, x2, x3, q, hbs, hp⟩ : ∃ p x0 x1 x2 x3 q, b = p ++ x0 :: x1 :: x2 :: x3 :: q ∧ p.length = i := by
    refine ⟨b.take i, b[i], b[i + 1], b[i + 2], b[i + 3], b.drop (i + 4), ?_, by simp; omega⟩
    rw [← List.drop_eq_getElem_cons (by omega), ← List.drop_eq_getElem_cons (by omega), ← List.drop_eq_getElem_cons (by omega), ← List.drop_eq_getElem_cons (by omega), List.take_append_drop]
  have g0 := hb x0 (by rw [hbs]; simp)
  have g1 := hb x1 (by rw [hbs]; simp)
  have g2 := hb x2 (by rw [hbs]; simp)
  have g3 := hb x3 (by rw [hbs]; simp)
  have ei : ∀ j : Nat, j < 4 → wrap64 ((i : Int) + (j : Int)) = (p.length : Int) + (j : Int) := by
    intro j hj; rw [w64 (by omega) (by omega)]; omega
  obtain ⟨z0, hz0⟩ : ∃ z : Int, Go.bits .xor .u8 x0 ((d / 2 ^ (8 * 0) % 256 : Nat) : Int) = z := ⟨_, rfl⟩
  obtain ⟨z1, hz1⟩ : ∃ z : Int, Go.bits .xor .u8 x1 ((d / 2 ^ (8 * 1) % 256 : Nat) : Int) = z := ⟨_, rfl⟩
  obtain ⟨z2, hz2⟩ : ∃ z : Int, Go.bits .xor .u8 x2 ((d / 2 ^ (8 * 2) % 256 : Nat) : Int) = z := ⟨_, rfl⟩
  obtain ⟨z3, hz3⟩ : ∃ z : Int, Go.bits .xor .u8 x3 ((d / 2 ^ (8 * 3) % 256 : Nat) : Int) = z := ⟨_, rfl⟩
  have xx : ∀ (x : Int) (e : Nat), 0 ≤ x ∧ x < 256 → e < 256 → ∃ n : Nat, Go.bits .xor .u8 x (e : Int) = (n : Int) ∧ n = x.toNat ^^^ e ∧ n < 256 := by
    intro x e hx he
    have h := u8_xor x (e : Int) hx.1 hx.2 (by omega) (by omega)
    rw [Int.toNat_natCast] at h
    exact ⟨_, h, rfl, Crc.xor_lt8 _ _ (by omega) he⟩
  obtain ⟨k0, a0, b0, c0⟩ := xx x0 (d / 2 ^ (8 * 0) % 256) g0 (Nat.mod_lt _ (by decide))
  obtain ⟨k1, a1, b1, c1⟩ := xx x1 (d / 2 ^ (8 * 1) % 256) g1 (Nat.mod_lt _ (by decide))
  obtain ⟨k2, a2, b2, c2⟩ := xx x2 (d / 2 ^ (8 * 2) % 256) g2 (Nat.mod_lt _ (by decide))
  obtain ⟨k3, a3, b3, c3⟩ := xx x3 (d / 2 ^ (8 * 3) % 256) g3 (Nat.mod_lt _ (by decide))
  have round : ∀ (k : Nat) (j : Nat) (r r' : List Int) (x z : Int), j < 4 → r.length = b.length - p.length → rd r (j : Int) = x → Go.bits .xor .u8 x ((d / 2 ^ (8 * j) % 256 : Nat) : Int) = z → r.set j z = r' →
      bollardlaw03_CrcBursts.l0 (k + 1) b (d : Int) true (i : Int) (p ++ r) (j : Int) = bollardlaw03_CrcBursts.l0 k b (d : Int) true (i : Int) (p ++ r') ((j + 1 : Nat) : Int) := by
    intro k j r r' x z hj hr hx hz hset
    have hl : (p ++ r).length = b.length := by rw [List.length_append, hr]; omega
    simp only [bollardlaw03_CrcBursts.l0]
    rw [if_pos (by omega), ei j hj, if_pos (by omega), if_pos (by rw [hl]; omega), if_pos (sh0 j), rd_app, hx, shr_eq d hd j hj, hz, set_app, hset, w64 (by omega) (by omega)]
    rfl
  have lr : ∀ y0 y1 y2 y3 : Int, (y0 :: y1 :: y2 :: y3 :: q).length = b.length - p.length := by intro _ _ _ _; rw [hbs]; simp
  have t0 := round (b.length + 6) 0 (x0 :: x1 :: x2 :: x3 :: q) (z0 :: x1 :: x2 :: x3 :: q) x0 z0 (by decide) (lr _ _ _ _) rfl hz0 rfl
  have t1 := round (b.length + 5) 1 (z0 :: x1 :: x2 :: x3 :: q) (z0 :: z1 :: x2 :: x3 :: q) x1 z1 (by decide) (lr _ _ _ _) rfl hz1 rfl
  have t2 := round (b.length + 4) 2 (z0 :: z1 :: x2 :: x3 :: q) (z0 :: z1 :: z2 :: x3 :: q) x2 z2 (by decide) (lr _ _ _ _) rfl hz2 rfl
  have t3 := round (b.length + 3) 3 (z0 :: z1 :: z2 :: x3 :: q) (z0 :: z1 :: z2 :: z3 :: q) x3 z3 (by decide) (lr _ _ _ _) rfl hz3 rfl
  have tt := t0.trans (t1.trans (t2.trans t3))
  simp only [bollardlaw03_CrcBursts.j0]
  rw [if_neg n0, if_neg (by rw [w64 (by omega) (by omega)]; omega), Option.bind_some, List.nil_append, if_pos (by simp; omega), em]
  have hbs2 : bollardlaw03_CrcBursts.l0 (b.length + 7) b (d : Int) true (i : Int) b 0 = bollardlaw03_CrcBursts.l0 (b.length + 6 + 1) b (d : Int) true (i : Int) (p ++ x0 :: x1 :: x2 :: x3 :: q) ((0 : Nat) : Int) := by
    conv => lhs; arg 6; rw [hbs]
    rfl
  rw [hbs2, tt]
  have hc : ∀ z ∈ p ++ z0 :: z1 :: z2 :: z3 :: q, 0 ≤ z ∧ z < 256 := by
    intro z hz
    rcases List.mem_append.1 hz with h | h
    · exact hb z (by rw [hbs]; simp [h])
    · simp only [List.mem_cons] at h
      rcases h with rfl | rfl | rfl | rfl | h
      · omega
      · omega
      · omega
      · omega
      · exact hb z (by rw [hbs]; simp [h])
  have lc : (p ++ z0 :: z1 :: z2 :: z3 :: q).length = b.length := by rw [hbs]; simp
  simp only [bollardlaw03_CrcBursts.l0]
  rw [if_neg (by omega), table_eq, Option.bind_some, if_pos trivial, sum_eq b hb (by omega) _ (by omega), Option.bind_some, sum_eq _ hc (by omega) _ (by omega), Option.bind_some]
  congr 1
  rw [bne_iff_ne]
  intro e
  have e' := xor_all_inj _ _ (Int.ofNat.inj e)
  rw [hbs, nats_app, nats_app, Crc.run_append, Crc.run_append] at e'
  have hpn := nats_lt p (fun z hz => hb z (by rw [hbs]; simp [hz]))
  have hqn := nats_lt q (fun z hz => hb z (by rw [hbs]; simp [hz]))
  have s0 := Crc.run_lt (nats p) 4294967295 (by decide) hpn
  generalize Crc.run 4294967295 (nats p) = s at e' s0
  have w1 : nats (x0 :: x1 :: x2 :: x3 :: q) = [x0.toNat, x1.toNat, x2.toNat, x3.toNat] ++ nats q := rfl
  have w2 : nats (z0 :: z1 :: z2 :: z3 :: q) = [k0, k1, k2, k3] ++ nats q := by
    show z0.toNat :: z1.toNat :: z2.toNat :: z3.toNat :: nats q = _
    have q0 : z0.toNat = k0 := by omega
    have q1 : z1.toNat = k1 := by omega
    have q2 : z2.toNat = k2 := by omega
    have q3 : z3.toNat = k3 := by omega
    rw [q0, q1, q2, q3]; rfl
  rw [w1, w2, Crc.run_append, Crc.run_append] at e'
  have r1 : ∀ m ∈ [x0.toNat, x1.toNat, x2.toNat, x3.toNat], m < 256 := by intro m hm; simp at hm; omega
  have r2 : ∀ m ∈ [k0, k1, k2, k3], m < 256 := by intro m hm; simp at hm; omega
  have e2 := Crc.run_inj (nats q) _ _ (Crc.run_lt _ s s0 r1) (Crc.run_lt _ s s0 r2) hqn e'
  rw [b0, b1, b2, b3] at e2
  have e3 := Crc.burst s d x0.toNat x1.toNat x2.toNat x3.toNat hd (by simpa using e2)
  omega
end Go.Proofs.Ytdmlkjenopmdlaa.Pure
