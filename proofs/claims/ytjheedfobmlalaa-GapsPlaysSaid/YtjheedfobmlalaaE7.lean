/- What an operation that turns nothing gives in the evaluator, it gives on the machine: each of them. It bears no condition. -/
import Derived.Test.YtjheedfobmlalaaE6
import Derived.ChangeKeysEq
namespace Go.Proofs.Ytjheedfobmlalaa.E
open Go.RowKit (Below)
set_option linter.unusedVariables false
set_option linter.unusedSimpArgs false

section
variable {P : Program} {B : Nat} {w0 w : World} {ρ : Rho} {H : AH} {N : Nat} {T : Tm} {tmps : Array Value} {ds : List Deferred}

theorem pun_ok {op : UnOp} {x r : AV} {a : Value} (hx : VR ρ x a) (h : pun op x = some r) : Lk P w ρ (Op.unary op a) r := by
  unfold pun at h
  split at h
  · rename_i _ k n
    rw [VR_i hx]; simp only [Option.some.injEq] at h; subst h
    exact ⟨.int k (k.wrap (0 - n)), by simp [Op.unary, Op.intArith], by simp only [VR]⟩
  · rename_i _ k n
    rw [VR_i hx]
    simp only [Option.map_eq_some_iff] at h
    obtain ⟨z, hz, rfl⟩ := h
    exact ⟨.int k z, by simpa [Op.unary] using ibits_ok (P := P) (w := w) hz, by simp only [VR]⟩
  · rename_i _ b
    rw [VR_b hx]; simp only [Option.some.injEq] at h; subst h
    exact ⟨.bool _, by simp only [Op.unary]; rfl, by simp only [VR]⟩
  · cases h

theorem mnmx_ok {mx : Bool} : ∀ {xs : List AV} {acc : AV} {a : Value} {us : List Value} {r : AV}, VR ρ acc a → VRL ρ xs us →
    xs.foldl (fun a y => match a with | some v => pmnmx mx v y | none => none) (some acc) = some r →
    Lk P w ρ (us.foldlM (if mx then Builtin.max2 else Builtin.min2) a) r
  | [], acc, a, us, r, ha, hl, h => by
    rw [VRL_nil_iff] at hl; subst hl
    simp at h; subst h
    exact ⟨a, rfl, ha⟩
  | x :: xs, acc, a, us, r, ha, hl, h => by
    rw [VRL_cons_iff] at hl; obtain ⟨u, us, rfl, hu, hl⟩ := hl
    simp only [List.foldl_cons] at h
    have none_fold : ∀ l : List AV, l.foldl (fun a y => match a with | some v => pmnmx mx v y | none => none) none = none := by
      intro l; induction l with
      | nil => rfl
      | cons y l ih => simpa using ih
    cases hp : pmnmx mx acc x with
    | none => rw [hp, none_fold] at h; cases h
    | some acc' =>
      rw [hp] at h
      unfold pmnmx at hp
      split at hp
      · rename_i _ _ k p l q
        rw [VR_i ha, VR_i hu]
        simp only [Option.some.injEq] at hp; subst hp
        obtain ⟨c, hc, hv⟩ := mnmx_ok (acc := .i k (if mx then (if q > p then q else p) else (if q < p then q else p))) (a := .int k (if mx then (if q > p then q else p) else (if q < p then q else p))) (by simp only [VR]) hl h
        refine ⟨c, ?_, hv⟩
        simp only [List.foldlM_cons, Sem.run_bind]
        cases mx with
        | true => simpa [Builtin.max2] using hc
        | false => simpa [Builtin.min2] using hc
      · cases hp

/-! Equality with nil -/
theorem eq_ptr {t e : TypeId} (hd : P.underlying t = some (.pointer e)) (d : Nat) (a : Option Addr) : (Op.equalIn (d + 1) t (.pointer a) (.pointer none)).run P w = .ok a.isNone w ∧ (Op.equalIn (d + 1) t (.pointer none) (.pointer a)).run P w = .ok a.isNone w := by
  constructor <;> (unfold Op.equalIn; cases a <;> simp [run_underlying hd])
theorem eq_sl {t e : TypeId} (hd : P.underlying t = some (.slice e)) (d : Nat) (a : Option Addr) (n m : Nat) : (Op.equalIn (d + 1) t (.slice a n m) (.slice none 0 0)).run P w = .ok a.isNone w ∧ (Op.equalIn (d + 1) t (.slice none 0 0) (.slice a n m)).run P w = .ok a.isNone w := by
  constructor <;> (unfold Op.equalIn; cases a <;> simp [run_underlying hd])
theorem eq_map {t k e : TypeId} (hd : P.underlying t = some (.map k e)) (d : Nat) (a : Option Nat) : (Op.equalIn (d + 1) t (.map a) (.map none)).run P w = .ok a.isNone w ∧ (Op.equalIn (d + 1) t (.map none) (.map a)).run P w = .ok a.isNone w := by
  constructor <;> (unfold Op.equalIn; cases a <;> simp [run_underlying hd])
theorem eq_nf {t : TypeId} {p r : Array TypeId} {z : Bool} (hd : P.underlying t = some (.func p r z)) (d : Nat) : (Op.equalIn (d + 1) t .nilFunc .nilFunc).run P w = .ok true w := by
  unfold Op.equalIn; simp [run_underlying hd]
theorem eq_fn {t : TypeId} {p r : Array TypeId} {z : Bool} (hd : P.underlying t = some (.func p r z)) (d : Nat) (f : Fn) (a b : Array Value) : (Op.equalIn (d + 1) t (.func f a b) .nilFunc).run P w = .ok false w ∧ (Op.equalIn (d + 1) t .nilFunc (.func f a b)).run P w = .ok false w := by
  constructor <;> (unfold Op.equalIn; simp [run_underlying hd])

theorem run_eqop {op : BinOp} {neg : Bool} (ho : op = if neg then .neq else .eql) {t : TypeId} {x y : Operand} {a b : Value} {r : Bool} (hg : eqGuard op t x y a b = pure ())
    (h1 : Go.binOp .eql t a b = (do pure (.bool (← Op.equal t a b)))) (h2 : Go.binOp .neq t a b = (do pure (.bool (!(← Op.equal t a b))))) (h : (Op.equalIn (9999 + 1) t a b).run P w = .ok r w) :
    (do eqGuard op t x y a b; Go.binOp op t a b : Sem Value).run P w = .ok (.bool (if neg then !r else r)) w := by
  have h' : (Op.equal t a b).run P w = .ok r w := h
  rw [hg]
  subst ho
  cases neg <;> simp [h1, h2, h']

/-! Arrays of flat elements -/
theorem flatEq_ok {e : TypeId} {d : TypeDesc} (hd : P.underlying e = some d) {kd : Nat} (hk : kindOf P e = some kd) {x y : AV} {a b : Value} (hx : VR ρ x a) (hy : VR ρ y b) {r : Bool} (hkd : keyOk kd x = true) (h : AV.flatEq x y = some r) (n : Nat) :
    (Op.equalIn (n + 1) e a b).run P w = .ok r w := by
  unfold kindOf at hk
  rw [hd] at hk
  unfold AV.flatEq at h
  split at h
  · rw [VR_b hx, VR_b hy]
    cases d <;> simp at hk <;> subst hk <;> simp [keyOk] at hkd
    simp only [Option.some.injEq] at h; subst h
    exact run_equalIn_bool w n e _ _ hd
  · rw [VR_i hx, VR_i hy]
    cases d <;> simp at hk <;> subst hk <;> simp [keyOk] at hkd
    split at h
    · rename_i hh; subst hh
      simp only [Option.some.injEq] at h; subst h
      exact run_equalIn_int w n e _ _ _ _ hd
    · cases h
  · rw [VR_s hx, VR_s hy]
    cases d <;> simp at hk <;> subst hk <;> simp [keyOk] at hkd
    simp only [Option.some.injEq] at h; subst h
    exact run_equalIn_string w n e _ _ hd
  · cases h

theorem listEq_ok {e : TypeId} {d : TypeDesc} (hd : P.underlying e = some d) {kd : Nat} (hk : kindOf P e = some kd) (h1 : tsize P e = some 1) (n : Nat) : ∀ {xs ys : List AV} {cs ds : Array Value} {i len : Nat} {r : Bool},
    VRL ρ xs (cs.toList.drop i) → VRL ρ ys (ds.toList.drop i) → (∀ x ∈ xs, keyOk kd x = true) → AV.listEq xs ys = some r → len = xs.length → (Op.eqItems (n + 1) e 1 cs ds (List.range' i len)).run P w = .ok r w
  | [], [], cs, ds, i, len, r, hx, hy, hkd, h, hl => by
    simp [AV.listEq] at h; subst h; subst hl; simp [Op.eqItems]
  | [], _ :: _, cs, ds, i, len, r, hx, hy, hkd, h, hl => by simp [AV.listEq] at h
  | _ :: _, [], cs, ds, i, len, r, hx, hy, hkd, h, hl => by simp [AV.listEq] at h
  | x :: xs, y :: ys, cs, ds, i, len, r, hx, hy, hkd, h, hl => by
    subst hl
    rw [VRL_cons_iff] at hx hy
    obtain ⟨a, as, ha, hxa, hx⟩ := hx
    obtain ⟨b, bs, hb, hyb, hy⟩ := hy
    have ga : cs[i]? = some a := by rw [← Array.getElem?_toList]; have := congrArg (·[0]?) ha; simpa using this
    have gb : ds[i]? = some b := by rw [← Array.getElem?_toList]; have := congrArg (·[0]?) hb; simpa using this
    have na : cs.toList.drop (i + 1) = as := by rw [← List.drop_drop]; simp [ha]
    have nb : ds.toList.drop (i + 1) = bs := by rw [← List.drop_drop]; simp [hb]
    have hagg : tagg P e = false := by
      unfold tagg; unfold kindOf at hk; rw [hd] at hk ⊢; cases d <;> simp at hk <;> rfl
    have pa : (part e cs (i * 1)).run P w = .ok a w := by
      unfold part; simp only [Sem.run_bind, run_isAgg h1 (by rw [hd]; rfl), Result.andThen_ok, hagg, Nat.mul_one]; simp [ga]
    have pb : (part e ds (i * 1)).run P w = .ok b w := by
      unfold part; simp only [Sem.run_bind, run_isAgg h1 (by rw [hd]; rfl), Result.andThen_ok, hagg, Nat.mul_one]; simp [gb]
    simp only [AV.listEq] at h
    simp only [List.length_cons, List.range'_succ, Op.eqItems, Sem.run_bind, pa, pb, Result.andThen_ok]
    cases hf : AV.flatEq x y with
    | none => simp [hf] at h
    | some q =>
      rw [flatEq_ok hd hk hxa hyb (hkd x (by simp)) hf n]
      simp only [Result.andThen_ok]
      cases q with
      | true =>
        simp only [hf] at h
        simp only [Bool.not_true, Bool.false_eq_true, if_false]
        exact listEq_ok hd hk h1 n (by rw [na]; exact hx) (by rw [nb]; exact hy) (fun z hz => hkd z (by simp [hz])) h rfl
      | false =>
        simp [hf] at h; subst h
        simp

/-- Two values of one kind are held against each other. -/
theorem lk_bin {op : BinOp} {xt : TypeId} {x y : Operand} {q : XOp} (hc : cBin P op xt x y = some q) (hR : Rel P B w0 ρ H w) (hT : TR ρ N T tmps) {v : AV} (h : q.look T H = some v) :
    Lk P w ρ (do eqGuard op xt x y (Act.eval ⟨tmps, ds⟩ x) (Act.eval ⟨tmps, ds⟩ y); Go.binOp op xt (Act.eval ⟨tmps, ds⟩ x) (Act.eval ⟨tmps, ds⟩ y)) v := by
  unfold cBin at hc
  cases hcx : cX P x with
  | none => simp [hcx] at hc
  | some a =>
    cases hcy : cX P y with
    | none => simp [hcx, hcy] at hc
    | some b =>
      simp only [hcx, hcy] at hc
      have hx := cX_ok (ds := ds) hR hT hcx
      have hy := cX_ok (ds := ds) hR hT hcy
      have num : q = .bin op a b → Lk P w ρ (do eqGuard op xt x y (Act.eval ⟨tmps, ds⟩ x) (Act.eval ⟨tmps, ds⟩ y); Go.binOp op xt (Act.eval ⟨tmps, ds⟩ x) (Act.eval ⟨tmps, ds⟩ y)) v := by
        rintro rfl
        simp only [XOp.look] at h
        obtain ⟨c, hr, hv⟩ := pbin_ok (P := P) (w := w) (xt := xt) hx hy h
        refine ⟨c, ?_, hv⟩
        have : eqGuard op xt x y (Act.eval ⟨tmps, ds⟩ x) (Act.eval ⟨tmps, ds⟩ y) = pure () := by
          unfold pbin at h
          split at h
          · rename_i k p l q e1 e2
            rw [e1] at hx; rw [VR_i hx]; exact eqGuard_at_int ..
          · rename_i k p e1 e2
            rw [e1] at hx; rw [VR_s hx]; exact eqGuard_at_string ..
          · cases h
        simp [this, hr]
      have fin : ∀ (neg : Bool) (u1 u2 : Value) (r : Bool), Act.eval ⟨tmps, ds⟩ x = u1 → Act.eval ⟨tmps, ds⟩ y = u2 → op = (if neg then .neq else .eql) → eqGuard op xt x y u1 u2 = pure () →
          Go.binOp .eql xt u1 u2 = (do pure (.bool (← Op.equal xt u1 u2))) → Go.binOp .neq xt u1 u2 = (do pure (.bool (!(← Op.equal xt u1 u2)))) → (Op.equalIn (9999 + 1) xt u1 u2).run P w = .ok r w → v = .b (if neg then !r else r) →
          Lk P w ρ (do eqGuard op xt x y (Act.eval ⟨tmps, ds⟩ x) (Act.eval ⟨tmps, ds⟩ y); Go.binOp op xt (Act.eval ⟨tmps, ds⟩ x) (Act.eval ⟨tmps, ds⟩ y)) v := by
        intro neg u1 u2 r e1 e2 ho hg h1 h2 he hv
        subst hv
        rw [e1, e2]
        exact ⟨.bool _, run_eqop ho hg h1 h2 he, by simp only [VR]⟩
      have nilv : ∀ (c : Nat) (z : Operand), isNilC c z = true → Act.eval ⟨tmps, ds⟩ z = (match c with | 0 => .pointer none | 1 => .slice none 0 0 | 2 => .map none | _ => .nilFunc) := by
        intro c z hz
        unfold isNilC at hz
        split at hz <;> first | rfl | cases hz
      cases hd : P.underlying xt with
      | none => simp [hd] at hc
      | some d =>
        simp only [hd] at hc
        have nl : ∀ (c : Nat) (neg : Bool), op = (if neg then .neq else .eql) →
            (match c with | 0 => ∃ e, d = .pointer e | 1 => ∃ e, d = .slice e | 2 => ∃ k e, d = .map k e | _ => ∃ p r z, d = .func p r z) →
            (if isNilC c y then some (XOp.nilq c neg a) else if isNilC c x then some (.nilq c neg b) else none) = some q →
            Lk P w ρ (do eqGuard op xt x y (Act.eval ⟨tmps, ds⟩ x) (Act.eval ⟨tmps, ds⟩ y); Go.binOp op xt (Act.eval ⟨tmps, ds⟩ x) (Act.eval ⟨tmps, ds⟩ y)) v := by
          intro c neg ho hdc hq
          have gd : ∀ (u1 u2 : Value), (match u1 with | .nilIface | .agg _ => False | _ => True) → eqGuard op xt x y u1 u2 = pure () := by
            intro u1 u2 hu
            cases op <;> first | rfl | (cases u1 <;> first | rfl | exact hu.elim)
          split at hq
          · rename_i hn
            simp only [Option.some.injEq] at hq; subst hq
            have e2 := nilv c y hn
            simp only [XOp.look] at h
            split at h
            · rename_i a' e1
              rw [e1] at hx; simp only [Option.some.injEq] at h
              obtain ⟨e, rfl⟩ := hdc
              have : ∃ a2 : Option Addr, Act.eval ⟨tmps, ds⟩ x = .pointer a2 ∧ a'.isNone = a2.isNone := by
                cases a' with
                | none => simp only [VR] at hx; exact ⟨none, hx, rfl⟩
                | some a' => obtain ⟨k, o, s, _, hx⟩ := VR_p hx; exact ⟨_, hx, rfl⟩
              obtain ⟨a2, hx, hn2⟩ := this
              exact fin neg _ _ a2.isNone hx e2 ho (gd _ _ trivial) rfl rfl (eq_ptr hd 9999 a2).1 (by rw [← h, hn2])
            · rename_i a' n m g e1
              rw [e1] at hx; simp only [Option.some.injEq] at h
              obtain ⟨e, rfl⟩ := hdc
              have : ∃ (a2 : Option Addr) (n2 m2 : Nat), Act.eval ⟨tmps, ds⟩ x = .slice a2 n2 m2 ∧ a'.isNone = a2.isNone := by
                cases a' with
                | none => simp only [VR] at hx; exact ⟨none, 0, 0, hx.2.2, rfl⟩
                | some a' => simp only [VR] at hx; obtain ⟨y, c, hx, _⟩ := hx; exact ⟨_, _, _, hx, rfl⟩
              obtain ⟨a2, n2, m2, hx, hn2⟩ := this
              exact fin neg _ _ a2.isNone hx e2 ho (gd _ _ trivial) rfl rfl (eq_sl hd 9999 a2 n2 m2).1 (by rw [← h, hn2])
            · rename_i a' e1
              rw [e1] at hx; simp only [Option.some.injEq] at h
              obtain ⟨k, e, rfl⟩ := hdc
              have : ∃ (a2 : Option Nat), Act.eval ⟨tmps, ds⟩ x = .map a2 ∧ a'.isNone = a2.isNone := by
                cases a' with
                | none => simp only [VR] at hx; exact ⟨none, hx, rfl⟩
                | some a' => simp only [VR] at hx; obtain ⟨k, o, s, _, hx⟩ := hx; exact ⟨_, hx, rfl⟩
              obtain ⟨a2, hx, hn2⟩ := this
              exact fin neg _ _ a2.isNone hx e2 ho (gd _ _ trivial) rfl rfl (eq_map hd 9999 a2).1 (by rw [← h, hn2])
            · rename_i e1
              rw [e1] at hx; simp only [Option.some.injEq] at h
              obtain ⟨p, r, z, rfl⟩ := hdc
              simp only [VR] at hx
              exact fin neg _ _ true hx e2 ho (gd _ _ trivial) rfl rfl (eq_nf hd 9999) (by rw [← h]; cases neg <;> rfl)
            · rename_i f l1 l2 e1
              rw [e1] at hx; simp only [Option.some.injEq] at h
              obtain ⟨p, r, z, rfl⟩ := hdc
              simp only [VR] at hx
              obtain ⟨f', l1', l2', hx, _⟩ := hx
              exact fin neg _ _ false hx e2 ho (gd _ _ trivial) rfl rfl (eq_fn hd 9999 f' l1' l2').1 (by rw [← h]; cases neg <;> rfl)
            · cases h
          · split at hq
            · rename_i hn0 hn
              simp only [Option.some.injEq] at hq; subst hq
              have e2 := nilv c x hn
              simp only [XOp.look] at h
              split at h
              · rename_i a' e1
                rw [e1] at hy; simp only [Option.some.injEq] at h
                obtain ⟨e, rfl⟩ := hdc
                have : ∃ a2 : Option Addr, Act.eval ⟨tmps, ds⟩ y = .pointer a2 ∧ a'.isNone = a2.isNone := by
                  cases a' with
                  | none => simp only [VR] at hy; exact ⟨none, hy, rfl⟩
                  | some a' => obtain ⟨k, o, s, _, hy⟩ := VR_p hy; exact ⟨_, hy, rfl⟩
                obtain ⟨a2, hy, hn2⟩ := this
                exact fin neg _ _ a2.isNone e2 hy ho (gd _ _ trivial) rfl rfl (eq_ptr hd 9999 a2).2 (by rw [← h, hn2])
              · rename_i a' n m g e1
                rw [e1] at hy; simp only [Option.some.injEq] at h
                obtain ⟨e, rfl⟩ := hdc
                have : ∃ (a2 : Option Addr) (n2 m2 : Nat), Act.eval ⟨tmps, ds⟩ y = .slice a2 n2 m2 ∧ a'.isNone = a2.isNone := by
                  cases a' with
                  | none => simp only [VR] at hy; exact ⟨none, 0, 0, hy.2.2, rfl⟩
                  | some a' => simp only [VR] at hy; obtain ⟨z, c, hy, _⟩ := hy; exact ⟨_, _, _, hy, rfl⟩
                obtain ⟨a2, n2, m2, hy, hn2⟩ := this
                exact fin neg _ _ a2.isNone e2 hy ho (gd _ _ trivial) rfl rfl (eq_sl hd 9999 a2 n2 m2).2 (by rw [← h, hn2])
              · rename_i a' e1
                rw [e1] at hy; simp only [Option.some.injEq] at h
                obtain ⟨k, e, rfl⟩ := hdc
                have : ∃ (a2 : Option Nat), Act.eval ⟨tmps, ds⟩ y = .map a2 ∧ a'.isNone = a2.isNone := by
                  cases a' with
                  | none => simp only [VR] at hy; exact ⟨none, hy, rfl⟩
                  | some a' => simp only [VR] at hy; obtain ⟨k, o, s, _, hy⟩ := hy; exact ⟨_, hy, rfl⟩
                obtain ⟨a2, hy, hn2⟩ := this
                exact fin neg _ _ a2.isNone e2 hy ho (gd _ _ trivial) rfl rfl (eq_map hd 9999 a2).2 (by rw [← h, hn2])
              · rename_i e1
                rw [e1] at hy; simp only [Option.some.injEq] at h
                obtain ⟨p, r, z, rfl⟩ := hdc
                simp only [VR] at hy
                exact fin neg _ _ true e2 hy ho (gd _ _ trivial) rfl rfl (eq_nf hd 9999) (by rw [← h]; cases neg <;> rfl)
              · rename_i f l1 l2 e1
                rw [e1] at hy; simp only [Option.some.injEq] at h
                obtain ⟨p, r, z, rfl⟩ := hdc
                simp only [VR] at hy
                obtain ⟨f', l1', l2', hy, _⟩ := hy
                exact fin neg _ _ false e2 hy ho (gd _ _ trivial) rfl rfl (eq_fn hd 9999 f' l1' l2').2 (by rw [← h]; cases neg <;> rfl)
              · cases h
            · cases hq
        cases d with
        | int k => simp only [Option.some.injEq] at hc; exact num hc.symm
        | string => simp only [Option.some.injEq] at hc; exact num hc.symm
        | bool =>
          have go : ∀ neg : Bool, op = (if neg then .neq else .eql) → q = .beq neg a b → Lk P w ρ (do eqGuard op xt x y (Act.eval ⟨tmps, ds⟩ x) (Act.eval ⟨tmps, ds⟩ y); Go.binOp op xt (Act.eval ⟨tmps, ds⟩ x) (Act.eval ⟨tmps, ds⟩ y)) v := by
            rintro neg ho rfl
            simp only [XOp.look] at h
            split at h
            · rename_i p1 p2 e1 e2
              rw [e1] at hx; rw [e2] at hy
              simp only [Option.some.injEq] at h
              exact fin neg _ _ (p1 == p2) (VR_b hx) (VR_b hy) ho (eqGuard_at_bool ..) rfl rfl (run_equalIn_bool w 9999 xt p1 p2 hd) h.symm
            · cases h
          cases op <;> simp only [reduceCtorEq, Option.some.injEq] at hc
          · exact go false rfl hc.symm
          · exact go true rfl hc.symm
        | array n e =>
          simp only at hc
          cases hk : kindOf P e with
          | none => simp [hk] at hc
          | some kd =>
            simp only [hk] at hc
            split at hc
            · rename_i hg
              obtain ⟨d, hde, _⟩ := kindOf_und hk
              obtain ⟨i, hi, hsz⟩ := tsize_some hg.2
              have go : ∀ neg : Bool, op = (if neg then .neq else .eql) → q = .eqagg neg kd n a b → Lk P w ρ (do eqGuard op xt x y (Act.eval ⟨tmps, ds⟩ x) (Act.eval ⟨tmps, ds⟩ y); Go.binOp op xt (Act.eval ⟨tmps, ds⟩ x) (Act.eval ⟨tmps, ds⟩ y)) v := by
                rintro neg ho rfl
                simp only [XOp.look] at h
                split at h
                · rename_i l1 l2 e1 e2
                  rw [e1] at hx; rw [e2] at hy
                  obtain ⟨cs, hx, hcs, _⟩ := VR_agg hx
                  obtain ⟨es, hy, hes, _⟩ := VR_agg hy
                  split at h
                  · rename_i hl
                    simp only [Option.map_eq_some_iff] at h
                    obtain ⟨r, hr, rfl⟩ := h
                    have hrun : (Op.equalIn (9999 + 1) xt (.agg cs) (.agg es)).run P w = .ok r w := by
                      rw [run_equalIn_array w 9999 cs es hd hi]
                      have : P.cellsOf e = 1 := by simp [Program.cellsOf, hi, hsz]
                      rw [this, List.range_eq_range']
                      exact listEq_ok hde hk hg.2 9998 (by simpa using hcs) (by simpa using hes) (by simpa using hl.2) hr hl.1
                    rw [hx, hy]
                    refine ⟨.bool (if neg then !r else r), ?_, by simp only [VR]⟩
                    have h' : (Op.equal xt (.agg cs) (.agg es)).run P w = .ok r w := hrun
                    subst ho
                    have hgd : ∀ o : BinOp, (eqGuard o xt x y (.agg cs) (.agg es)).run P w = .ok () w := fun o => by
                      cases o <;> first | rfl | (unfold eqGuard; simp [hg.1])
                    cases neg <;> simp only [Bool.false_eq_true, if_false, if_true, Sem.run_bind, hgd, Result.andThen_ok]
                    · rw [show Go.binOp .eql xt (.agg cs) (.agg es) = (do pure (.bool (← Op.equal xt (.agg cs) (.agg es)))) from rfl]
                      simp [h']
                    · rw [show Go.binOp .neq xt (.agg cs) (.agg es) = (do pure (.bool (!(← Op.equal xt (.agg cs) (.agg es))))) from rfl]
                      simp [h']
                  · cases h
                · cases h
              cases op <;> simp only [reduceCtorEq, Option.some.injEq] at hc
              · exact go false rfl hc.symm
              · exact go true rfl hc.symm
            · cases hc
        | pointer e =>
          cases op <;> simp only [reduceCtorEq] at hc
          · exact nl 0 false rfl ⟨e, rfl⟩ hc
          · exact nl 0 true rfl ⟨e, rfl⟩ hc
        | slice e =>
          cases op <;> simp only [reduceCtorEq] at hc
          · exact nl 1 false rfl ⟨e, rfl⟩ hc
          · exact nl 1 true rfl ⟨e, rfl⟩ hc
        | map k e =>
          cases op <;> simp only [reduceCtorEq] at hc
          · exact nl 2 false rfl ⟨k, e, rfl⟩ hc
          · exact nl 2 true rfl ⟨k, e, rfl⟩ hc
        | func p r z =>
          cases op <;> simp only [reduceCtorEq] at hc
          · exact nl 3 false rfl ⟨p, r, z, rfl⟩ hc
          · exact nl 3 true rfl ⟨p, r, z, rfl⟩ hc
        | _ => simp at hc
end
end Go.Proofs.Ytjheedfobmlalaa.E
