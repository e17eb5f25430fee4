/- Plain facts on the checksum: the step of one bit on natural numbers is additive and one to one. -/
namespace Go.Proofs.Ytdmlkjenopmdlaa.Crc

/-- The step of one bit. -/
def L (v : Nat) : Nat := (v / 2) ^^^ (if v % 2 = 1 then 2197175160 else 0)
/-- The steps of an octet. -/
def L8 (v : Nat) : Nat := L (L (L (L (L (L (L (L v)))))))

theorem xor4 (a b c d : Nat) : (a ^^^ b) ^^^ (c ^^^ d) = (a ^^^ c) ^^^ (b ^^^ d) := by
  rw [Nat.xor_assoc, ← Nat.xor_assoc b c d, Nat.xor_comm b c, Nat.xor_assoc c b d, ← Nat.xor_assoc]

theorem xor_div_two (a b : Nat) : (a ^^^ b) / 2 = a / 2 ^^^ b / 2 := by
  have h := Nat.shiftRight_xor_distrib (a := a) (b := b) (i := 1)
  simpa [Nat.shiftRight_eq_div_pow] using h

theorem xor_mod_two (a b : Nat) : (a ^^^ b) % 2 = (a + b) % 2 := by
  have h := Nat.xor_mod_two_pow (a := a) (b := b) (n := 1)
  simp only [Nat.pow_one] at h
  rw [h]
  rcases Nat.mod_two_eq_zero_or_one a with ha | ha <;> rcases Nat.mod_two_eq_zero_or_one b with hb | hb <;> rw [ha, hb] <;> simp <;> omega

theorem L_xor (a b : Nat) : L (a ^^^ b) = L a ^^^ L b := by
  unfold L
  rw [xor_div_two, xor_mod_two, xor4]
  congr 1
  rcases Nat.mod_two_eq_zero_or_one a with ha | ha <;> rcases Nat.mod_two_eq_zero_or_one b with hb | hb
  · rw [if_neg (by omega), if_neg (by omega), if_neg (by omega)]; rfl
  · rw [if_pos (by omega), if_neg (by omega), if_pos (by omega), Nat.zero_xor]
  · rw [if_pos (by omega), if_pos (by omega), if_neg (by omega), Nat.xor_zero]
  · rw [if_neg (by omega), if_pos (by omega), if_pos (by omega), Nat.xor_self]

theorem L8_xor (a b : Nat) : L8 (a ^^^ b) = L8 a ^^^ L8 b := by
  unfold L8; simp only [L_xor]

theorem L_even (m : Nat) : L (2 * m) = m := by
  unfold L
  rw [if_neg (by omega), Nat.xor_zero]; omega

theorem L8_mul (m : Nat) : L8 (256 * m) = m := by
  unfold L8
  rw [show 256 * m = 2 * (2 * (2 * (2 * (2 * (2 * (2 * (2 * m))))))) by omega]
  simp only [L_even]

theorem add_xor (a b : Nat) (h : b < 256) : 256 * a + b = 256 * a ^^^ b := by
  apply Nat.eq_of_testBit_eq
  intro j
  have e := Nat.testBit_two_pow_mul_add a (i := 8) (b := b) (by simpa using h) j
  have e2 := Nat.testBit_two_pow_mul_add a (i := 8) (b := 0) (by decide) j
  simp only [Nat.add_zero, Nat.reducePow, Nat.zero_testBit] at e e2
  rw [Nat.testBit_xor, e, e2]
  by_cases hj : j < 8
  · simp [hj]
  · simp only [hj, if_false]
    have hb : b.testBit j = false := Nat.testBit_lt_two_pow (Nat.lt_of_lt_of_le h (by
      have := Nat.pow_le_pow_right (n := 2) (by decide) (show 8 ≤ j by omega); simpa using this))
    simp [hb]

theorem split (v : Nat) : v = 256 * (v / 256) ^^^ v % 256 := by
  rw [← add_xor _ _ (Nat.mod_lt _ (by decide))]; omega

/-- An octet's steps are one look into the table. -/
theorem L8_split (v : Nat) : L8 v = v / 256 ^^^ L8 (v % 256) := by
  conv => lhs; rw [split v]
  rw [L8_xor, L8_mul]

theorem xor_lt (a b : Nat) (ha : a < 4294967296) (hb : b < 4294967296) : a ^^^ b < 4294967296 :=
  Nat.xor_lt_two_pow (n := 32) ha hb

theorem xor_lt8 (a b : Nat) (ha : a < 256) (hb : b < 256) : a ^^^ b < 256 :=
  Nat.xor_lt_two_pow (n := 8) ha hb

theorem L_lt (v : Nat) (h : v < 4294967296) : L v < 4294967296 := by
  unfold L
  apply xor_lt
  · omega
  · split <;> omega

theorem L8_lt (v : Nat) (h : v < 4294967296) : L8 v < 4294967296 := by
  unfold L8; repeat (first | exact h | apply L_lt)

theorem xor_zero_eq (a b : Nat) (h : a ^^^ b = 0) : a = b := by
  have e : a ^^^ b ^^^ b = b := by rw [h, Nat.zero_xor]
  rwa [Nat.xor_assoc, Nat.xor_self, Nat.xor_zero] at e

theorem L_zero (v : Nat) (h : v < 4294967296) (e : L v = 0) : v = 0 := by
  unfold L at e
  by_cases hv : v % 2 = 1
  · rw [if_pos hv] at e
    have := xor_zero_eq _ _ e
    omega
  · rw [if_neg hv, Nat.xor_zero] at e; omega

theorem L8_zero (v : Nat) (h : v < 4294967296) (e : L8 v = 0) : v = 0 := by
  unfold L8 at e
  have h1 := L_lt v h; have h2 := L_lt _ h1; have h3 := L_lt _ h2; have h4 := L_lt _ h3
  have h5 := L_lt _ h4; have h6 := L_lt _ h5; have h7 := L_lt _ h6
  exact L_zero v h (L_zero _ h1 (L_zero _ h2 (L_zero _ h3 (L_zero _ h4 (L_zero _ h5 (L_zero _ h6 (L_zero _ h7 e)))))))

theorem L8_inj (a b : Nat) (ha : a < 4294967296) (hb : b < 4294967296) (e : L8 a = L8 b) : a = b := by
  apply xor_zero_eq
  apply L8_zero _ (xor_lt a b ha hb)
  rw [L8_xor, e, Nat.xor_self]

/-- One octet taken into a sum. -/
def step (s x : Nat) : Nat := L8 (s ^^^ x)

theorem xor_div256 (a b : Nat) : (a ^^^ b) / 256 = a / 256 ^^^ b / 256 := by
  have h := Nat.shiftRight_xor_distrib (a := a) (b := b) (i := 8)
  simpa [Nat.shiftRight_eq_div_pow] using h

theorem xor_mod256 (a b : Nat) : (a ^^^ b) % 256 = a % 256 ^^^ b % 256 := by
  have h := Nat.xor_mod_two_pow (a := a) (b := b) (n := 8)
  simpa using h

theorem step_table (s x : Nat) (hx : x < 256) : step s x = s / 256 ^^^ L8 (s % 256 ^^^ x) := by
  unfold step
  rw [L8_split, xor_div256, xor_mod256, Nat.mod_eq_of_lt hx, Nat.div_eq_of_lt hx, Nat.xor_zero]

theorem step_lt (s x : Nat) (hs : s < 4294967296) (hx : x < 256) : step s x < 4294967296 :=
  L8_lt _ (xor_lt _ _ hs (by omega))

theorem step_inj (a b x : Nat) (ha : a < 4294967296) (hb : b < 4294967296) (hx : x < 256) (e : step a x = step b x) : a = b := by
  have := L8_inj _ _ (xor_lt a x ha (by omega)) (xor_lt b x hb (by omega)) e
  have e2 : a ^^^ x ^^^ x = b ^^^ x ^^^ x := by rw [this]
  rwa [Nat.xor_assoc, Nat.xor_self, Nat.xor_zero, Nat.xor_assoc, Nat.xor_self, Nat.xor_zero] at e2

/-- Octets taken into a sum. -/
def run (s : Nat) (l : List Nat) : Nat := l.foldl step s

theorem run_append (s : Nat) (a b : List Nat) : run s (a ++ b) = run (run s a) b := by unfold run; rw [List.foldl_append]

theorem run_lt (l : List Nat) : ∀ s, s < 4294967296 → (∀ x ∈ l, x < 256) → run s l < 4294967296 := by
  induction l with
  | nil => intro s h _; exact h
  | cons x l ih =>
    intro s h hl
    exact ih _ (step_lt s x h (hl x (by simp))) (fun y hy => hl y (by simp [hy]))

theorem run_inj (l : List Nat) : ∀ a b, a < 4294967296 → b < 4294967296 → (∀ x ∈ l, x < 256) → run a l = run b l → a = b := by
  induction l with
  | nil => intro a b _ _ _ e; exact e
  | cons x l ih =>
    intro a b ha hb hl e
    have hx := hl x (by simp)
    exact step_inj a b x ha hb hx (ih _ _ (step_lt a x ha hx) (step_lt b x hb hx) (fun y hy => hl y (by simp [hy])) e)

theorem run_xor (n : Nat) : ∀ (a b : Nat) (l m : List Nat), l.length = n → m.length = n →
    run (a ^^^ b) (List.zipWith (· ^^^ ·) l m) = run a l ^^^ run b m := by
  induction n with
  | zero =>
    intro a b l m hl hm
    rw [List.length_eq_zero_iff.1 hl, List.length_eq_zero_iff.1 hm]; rfl
  | succ n ih =>
    intro a b l m hl hm
    match l, m, hl, hm with
    | x :: l, y :: m, hl, hm =>
      have e : step (a ^^^ b) (x ^^^ y) = step a x ^^^ step b y := by
        unfold step; rw [xor4, L8_xor]
      show run (step (a ^^^ b) (x ^^^ y)) (List.zipWith (· ^^^ ·) l m) = run (step a x) l ^^^ run (step b y) m
      rw [e]
      exact ih _ _ l m (by simpa using hl) (by simpa using hm)

theorem byte4 (d : Nat) (hd : d < 4294967296) :
    d = d % 256 ^^^ (256 * (d / 256 % 256 ^^^ (256 * (d / 65536 % 256 ^^^ 256 * (d / 16777216 % 256))))) := by
  have e3 : d / 65536 = d / 65536 % 256 ^^^ 256 * (d / 16777216 % 256) := by
    rw [Nat.xor_comm, ← add_xor _ _ (by omega)]; omega
  rw [← e3]
  have e2 : d / 256 = d / 256 % 256 ^^^ 256 * (d / 65536) := by
    rw [Nat.xor_comm, ← add_xor _ _ (by omega)]; omega
  rw [← e2]
  rw [Nat.xor_comm, ← add_xor _ _ (by omega)]; omega

/-- Four octets that are turned by a number that is not nought. -/
theorem burst (s d x0 x1 x2 x3 : Nat) (hd : d < 4294967296)
    (e : run s [x0, x1, x2, x3] = run s [x0 ^^^ d % 256, x1 ^^^ d / 256 % 256, x2 ^^^ d / 65536 % 256, x3 ^^^ d / 16777216 % 256]) : d = 0 := by
  have k := run_xor 4 s 0 [x0, x1, x2, x3] [d % 256, d / 256 % 256, d / 65536 % 256, d / 16777216 % 256] rfl rfl
  rw [Nat.xor_zero] at k
  simp only [List.zipWith_cons_cons, List.zipWith_nil_right] at k
  rw [← e] at k
  have z : run 0 [d % 256, d / 256 % 256, d / 65536 % 256, d / 16777216 % 256] = 0 := by
    have := congrArg (fun y => run s [x0, x1, x2, x3] ^^^ y) k
    simpa [← Nat.xor_assoc, Nat.xor_self, Nat.zero_xor] using this.symm
  have r : run 0 [d % 256, d / 256 % 256, d / 65536 % 256, d / 16777216 % 256] = L8 (L8 (L8 (L8 d))) := by
    conv => rhs; rw [byte4 d hd]
    rw [L8_xor, L8_mul, ← Nat.xor_assoc, L8_xor, L8_mul, ← Nat.xor_assoc, L8_xor, L8_mul]
    simp [run, step, Nat.zero_xor]
  rw [r] at z
  have a1 := L8_lt d hd; have a2 := L8_lt _ a1; have a3 := L8_lt _ a2
  exact L8_zero d hd (L8_zero _ a1 (L8_zero _ a2 (L8_zero _ a3 z)))
end Go.Proofs.Ytdmlkjenopmdlaa.Crc
