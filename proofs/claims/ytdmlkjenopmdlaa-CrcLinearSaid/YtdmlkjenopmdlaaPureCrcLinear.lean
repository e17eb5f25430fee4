/- CrcLinear: texts of one length, added bit by bit, have steps from nought that are added so, for every input. -/
import Derived.Test.YtdmlkjenopmdlaaPCrcLinearx2
import Derived.Laws.BitsAllLaws
namespace Go.Proofs.Ytdmlkjenopmdlaa.Pure
open Go.RowKit Go.Proofs.Ytdmlkjenopmdlaa Go.Proofs.Ytdmlkjenopmdlaa.PCrcLinear Go.Proofs.YtdmlkjenopmdlaaW.PrintWords Go.Proofs.YtdmlkjenopmdlaaW.PrintLast Go.Proofs.YtdmlkjenopmdlaaW.PrintMore
set_option linter.unusedVariables false
set_option linter.unusedSimpArgs false
theorem w64 {n : Int} (h : -9223372036854775808 ≤ n) (h2 : n ≤ 9223372036854775807) : wrap64 n = n := IntWalk.wrap64_in n ⟨h, h2⟩
theorem bd8 {a : Int} (h : (Lit.int .u8 a).wf = true) : 0 ≤ a ∧ a < 256 := by
  have hmin : IntKind.u8.min = 0 := rfl
  have hmax : IntKind.u8.max = 255 := rfl
  simp only [Lit.wf, Bool.and_eq_true, decide_eq_true_eq, hmin, hmax] at h
  omega
theorem bd32 {a : Int} (h : (Lit.int .u32 a).wf = true) : 0 ≤ a ∧ a < 4294967296 := by
  have hmin : IntKind.u32.min = 0 := rfl
  have hmax : IntKind.u32.max = 4294967295 := rfl
  simp only [Lit.wf, Bool.and_eq_true, decide_eq_true_eq, hmin, hmax] at h
  omega
theorem awake_eq : bollardlaw03_awake.f = some true := rfl
theorem table_eq : crc_Table.f = some tab := rfl
theorem rd_get (l : List Int) (i : Int) (h0 : 0 ≤ i) (h1 : i < l.length) : ∃ h : i.toNat < l.length, rd l i = l[i.toNat] := by
  have hi : i.toNat < l.length := by omega
  refine ⟨hi, ?_⟩
  unfold rd
  rw [List.getD_eq_getElem?_getD, List.getElem?_eq_getElem hi]; rfl
theorem rd_tab (x : Nat) (hx : x < 256) : rd tab (x : Int) = (Crc.L8 x : Int) := by
  unfold rd tab
  rw [List.getD_eq_getElem?_getD, List.getElem?_map, Int.toNat_natCast, List.getElem?_range hx]; rfl
/-- Octets as natural numbers. -/
def nats (l : List Int) : List Nat := l.map Int.toNat
theorem nats_lt (l : List Int) (hl : ∀ x ∈ l, 0 ≤ x ∧ x < 256) : ∀ x ∈ nats l, x < 256 := by
  intro x hx
  obtain ⟨y, hy, rfl⟩ := List.mem_map.1 hx
  have := hl y hy
  omega
/-- The step over the program's own table. -/
theorem step_loop (l : List Int) (hl : ∀ x ∈ l, 0 ≤ x ∧ x < 256) (hlen : (l.length : Int) ≤ 1000000) (d : Nat) :
    ∀ (k : Nat) (s : Nat) (i : Nat), s < 4294967296 → i + d = l.length → d < k →
    crc_Step.l0 k tab (s : Int) l (l.length : Int) (i : Int) = some ((Crc.run s (nats (l.drop i)) : Nat) : Int) := by
  induction d with
  | zero =>
    intro k s i hs hi hk
    obtain ⟨k, rfl⟩ : ∃ m, k = m + 1 := ⟨k - 1, by omega⟩
    simp only [crc_Step.l0]
    rw [if_neg (by omega), List.drop_of_length_le (by omega)]
    rfl
  | succ d ih =>
    intro k s i hs hi hk
    obtain ⟨k, rfl⟩ : ∃ m, k = m + 1 := ⟨k - 1, by omega⟩
    have hil : i < l.length := by omega
    obtain ⟨_, hrd⟩ := rd_get l (i : Int) (by omega) (by omega)
    simp only [Int.toNat_natCast] at hrd
    obtain ⟨x0, x1⟩ := hl _ (List.getElem_mem hil)
    obtain ⟨x, hx⟩ : ∃ x : Nat, l[i] = (x : Int) := ⟨l[i].toNat, by omega⟩
    have hx2 : x < 256 := by omega
    have e1 : Go.bits .xor .u8 ((s : Int) % 256) (rd l (i : Int)) = ((s % 256 ^^^ x : Nat) : Int) := by
      rw [hrd, hx]
      have := u8_xor_nat (s % 256) x (Nat.mod_lt _ (by decide)) hx2
      rw [← this]; congr 1
    have e2 : s % 256 ^^^ x < 256 := Crc.xor_lt8 _ _ (Nat.mod_lt _ (by decide)) hx2
    have e3 : Go.bits .xor .u32 ((s : Int) / 256) ((Crc.L8 (s % 256 ^^^ x) : Nat) : Int) = ((Crc.step s x : Nat) : Int) := by
      rw [Crc.step_table s x hx2]
      have := u32_xor_nat (s / 256) (Crc.L8 (s % 256 ^^^ x)) (by omega) (Crc.L8_lt _ (by omega))
      rw [← this]; congr 1
    simp only [crc_Step.l0]
    rw [e1, if_pos (by omega), if_pos (by omega), if_pos (by omega), if_pos (by omega), if_pos (by rw [tab_len]; omega), rd_tab _ e2, e3, w64 (by omega) (by omega)]
    have e4 : (i : Int) + 1 = ((i + 1 : Nat) : Int) := by omega
    rw [e4, ih k (Crc.step s x) (i + 1) (Crc.step_lt s x hs hx2) (by omega) (by omega)]
    rw [List.drop_eq_getElem_cons hil]
    unfold nats
    rw [List.map_cons, hx]
    rfl
theorem step_eq (l : List Int) (hl : ∀ x ∈ l, 0 ≤ x ∧ x < 256) (hlen : (l.length : Int) ≤ 1000000) (k s : Nat) (hs : s < 4294967296) (hk : l.length < k) :
    crc_Step.f k tab (s : Int) l = some ((Crc.run s (nats l) : Nat) : Int) := by
  unfold crc_Step.f
  rw [if_pos (by rw [tab_len]; rfl)]
  have := step_loop l hl hlen l.length k s 0 hs (by omega) hk
  simpa using this
theorem sum_eq (l : List Int) (hl : ∀ x ∈ l, 0 ≤ x ∧ x < 256) (hlen : (l.length : Int) ≤ 1000000) (k : Nat) (hk : l.length < k) :
    crc_Sum.f k tab l = some (((Crc.run 4294967295 (nats l)) ^^^ 4294967295 : Nat) : Int) := by
  unfold crc_Sum.f
  rw [if_pos (by rw [tab_len]; rfl)]
  have h := step_eq l hl hlen k 4294967295 (by decide) hk
  have e : ((4294967295 : Nat) : Int) = 4294967295 := rfl
  rw [e] at h
  rw [h, Option.bind_some]
  have := u32_xor_nat 4294967295 (Crc.run 4294967295 (nats l)) (by decide) (Crc.run_lt _ _ (by decide) (nats_lt l hl))
  rw [e] at this
  rw [this, Nat.xor_comm]
theorem xor_all_inj (a b : Nat) (h : a ^^^ 4294967295 = b ^^^ 4294967295) : a = b := by
  have e : a ^^^ 4294967295 ^^^ 4294967295 = b ^^^ 4294967295 ^^^ 4294967295 := by rw [h]
  rwa [Nat.xor_assoc, Nat.xor_self, Nat.xor_zero, Nat.xor_assoc, Nat.xor_self, Nat.xor_zero] at e
/-- Octets added bit by bit. -/
def mix (a b : List Int) : List Int := List.zipWith (fun x y => Go.bits .xor .u8 x y) a b
theorem mix_bd (a b : List Int) (ha : ∀ x ∈ a, 0 ≤ x ∧ x < 256) (hb : ∀ x ∈ b, 0 ≤ x ∧ x < 256) :
    (∀ x ∈ mix a b, 0 ≤ x ∧ x < 256) ∧ nats (mix a b) = List.zipWith (· ^^^ ·) (nats a) (nats b) := by
  induction a generalizing b with
  | nil => exact ⟨fun x hx => by simp [mix] at hx, rfl⟩
  | cons x a ih =>
    match b, hb with
    | [], _ => exact ⟨fun x hx => by simp [mix] at hx, by simp [mix, nats]⟩
    | y :: b, hb =>
      obtain ⟨h1, h2⟩ := ih b (fun z hz => ha z (by simp [hz])) (fun z hz => hb z (by simp [hz]))
      have hx := ha x (by simp); have hy := hb y (by simp)
      have e := u8_xor x y hx.1 hx.2 hy.1 hy.2
      have hlt := Crc.xor_lt8 x.toNat y.toNat (by omega) (by omega)
      constructor
      · intro z hz
        have hz' : z ∈ Go.bits .xor .u8 x y :: mix a b := hz
        rcases List.mem_cons.1 hz' with rfl | h
        · rw [e]; omega
        · exact h1 z h
      · show (Go.bits .xor .u8 x y).toNat :: nats (mix a b) = (x.toNat ^^^ y.toNat) :: List.zipWith (· ^^^ ·) (nats a) (nats b)
        rw [h2, e, Int.toNat_natCast]
theorem take_bd (a : List Int) (n : Nat) (ha : ∀ x ∈ a, 0 ≤ x ∧ x < 256) : ∀ x ∈ a.take n, 0 ≤ x ∧ x < 256 := fun x hx => ha x (List.mem_of_mem_take hx)
theorem mix_snoc (a b : List Int) (i : Nat) (h1 : i < a.length) (h2 : i < b.length) : mix (a.take i) (b.take i) ++ [Go.bits .xor .u8 a[i] b[i]] = mix (a.take (i + 1)) (b.take (i + 1)) := by
  unfold mix
  rw [List.take_succ_eq_append_getElem h1, List.take_succ_eq_append_getElem h2, List.zipWith_append (by simp; omega)]
  rfl
theorem fin (a b : List Int) (ha : ∀ x ∈ a, 0 ≤ x ∧ x < 256) (hb : ∀ x ∈ b, 0 ≤ x ∧ x < 256) (n : Nat) (h1 : n ≤ a.length) (h2 : n ≤ b.length) (hn : n ≤ 2000) (k : Nat) (hk : n < k) :
    ((crc_Table.f).bind fun t119 => (if true = true then ((crc_Step.f k t119 0 (mix (a.take n) (b.take n))).bind fun t122 => (if 0 ≤ (n : Int) then (if (n : Int) ≤ (a.length : Int) then ((crc_Step.f k t119 0 (a.take ((n : Int)).toNat)).bind fun t124 => (if (n : Int) ≤ (b.length : Int) then ((crc_Step.f k t119 0 (b.take ((n : Int)).toNat)).bind fun t126 => (some (t122 == (Go.bits .xor .u32 t124 t126)))) else (none))) else (none)) else (none))) else (some false))) = some true := by
  obtain ⟨m1, m2⟩ := mix_bd (a.take n) (b.take n) (take_bd a n ha) (take_bd b n hb)
  have la : (a.take n).length = n := by simp; omega
  have lb : (b.take n).length = n := by simp; omega
  have lm : (mix (a.take n) (b.take n)).length = n := by unfold mix; rw [List.length_zipWith]; omega
  have e1 := step_eq (a.take n) (take_bd a n ha) (by omega) k 0 (by decide) (by omega)
  have e2 := step_eq (b.take n) (take_bd b n hb) (by omega) k 0 (by decide) (by omega)
  have e3 := step_eq (mix (a.take n) (b.take n)) m1 (by omega) k 0 (by decide) (by omega)
  rw [show ((0 : Nat) : Int) = 0 from rfl] at e1 e2 e3
  rw [table_eq, Option.bind_some, if_pos rfl, e3, Option.bind_some, if_pos (by omega), if_pos (by omega), Int.toNat_natCast, e1, Option.bind_some, if_pos (by omega), e2, Option.bind_some]
  have r := Crc.run_xor n 0 0 (nats (a.take n)) (nats (b.take n)) (by unfold nats; simp; omega) (by unfold nats; simp; omega)
  rw [Nat.xor_self] at r
  have x := u32_xor_nat _ _ (Crc.run_lt (nats (a.take n)) 0 (by decide) (nats_lt _ (take_bd a n ha))) (Crc.run_lt (nats (b.take n)) 0 (by decide) (nats_lt _ (take_bd b n hb)))
  rw [m2, r, x]; simp
theorem loop (a b : List Int) (ha : ∀ x ∈ a, 0 ≤ x ∧ x < 256) (hb : ∀ x ∈ b, 0 ≤ x ∧ x < 256) (n : Nat) (h1 : n ≤ a.length) (h2 : n ≤ b.length) (hn : n ≤ 2000) (d : Nat) :
    ∀ (k i : Nat), i + d = n → n + d + 1 < k →
    bollardlaw03_CrcLinear.l0 k a b true (n : Int) (mix (a.take i) (b.take i)) (i : Int) = some true := by
  induction d with
  | zero =>
    intro k i hi hk
    obtain ⟨k, rfl⟩ : ∃ m, k = m + 1 := ⟨k - 1, by omega⟩
    obtain rfl : i = n := by omega
    simp only [bollardlaw03_CrcLinear.l0]
    rw [if_neg (by omega)]
    exact fin a b ha hb i h1 h2 hn k (by omega)
  | succ d ih =>
    intro k i hi hk
    obtain ⟨k, rfl⟩ : ∃ m, k = m + 1 := ⟨k - 1, by omega⟩
    obtain ⟨p1, r1⟩ := rd_get a (i : Int) (by omega) (by omega)
    obtain ⟨p2, r2⟩ := rd_get b (i : Int) (by omega) (by omega)
    simp only [Int.toNat_natCast] at p1 p2 r1 r2
    have lm : (mix (a.take i) (b.take i)).length ≤ n := by unfold mix; rw [List.length_zipWith]; simp; omega
    simp only [bollardlaw03_CrcLinear.l0]
    rw [if_pos (by omega), if_pos (by omega), if_pos (by omega), if_pos (by omega), if_pos (by omega), r1, r2, mix_snoc a b i p1 p2, w64 (by omega) (by omega)]
    exact ih k (i + 1) (by omega) (by omega)
theorem CrcLinear : bollardlaw03_CrcLinear.Pure := by
  intro a b _ _ wa _ _ wb
  have ha : ∀ x ∈ a, 0 ≤ x ∧ x < 256 := fun x hx => bd8 (wa x hx)
  have hb : ∀ x ∈ b, 0 ≤ x ∧ x < 256 := fun x hx => bd8 (wb x hx)
  refine ⟨2 * a.length + 2, ?_⟩
  unfold bollardlaw03_CrcLinear.f
  rw [awake_eq, Option.bind_some]
  obtain ⟨n, hn, h1, h2⟩ : ∃ n : Nat, mn (a.length : Int) (b.length : Int) = (n : Int) ∧ n ≤ a.length ∧ n ≤ b.length := by
    unfold mn
    by_cases h : (b.length : Int) < (a.length : Int)
    · rw [if_pos h]; exact ⟨b.length, rfl, by omega, by omega⟩
    · rw [if_neg h]; exact ⟨a.length, rfl, by omega, by omega⟩
  rw [hn]
  by_cases h : (n : Int) > 2000
  · rw [if_pos h]
  · rw [if_neg h]
    exact loop a b ha hb n h1 h2 (by omega) n (2 * a.length + 2) 0 (by omega) (by omega)
end Go.Proofs.Ytdmlkjenopmdlaa.Pure
