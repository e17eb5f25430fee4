/- A region whose order is open comes, in each order, to what the evaluator says. It bears no condition. -/
import Derived.Test.YtjheedfobmlalaaE16
namespace Go.Proofs.Ytjheedfobmlalaa.E
open Go.RowKit (Below)
set_option linter.unusedVariables false
set_option linter.unusedSimpArgs false

/-- The temporaries behind those operations that have been carried out. -/
def tl : List XOper → (Nat → AV) → (Nat → Bool) → Tm → Tm
  | [], _, _, T => T
  | o :: r, vs, L, T => tl r (fun n => vs (n + 1)) L (if L o.ix = true then T.put o.dst (vs 0) else T)

theorem put_get (T : Tm) (d : Option Nat) (v : AV) (e : Nat) : (T.put d v).get e = if d = some e then v else T.get e := by
  cases d with
  | none => simp [Tm.put]
  | some d => simp only [Tm.put, Tm.get_set, Option.some.injEq]

theorem tl_get (d : Nat) (L : Nat → Bool) : ∀ (os : List XOper) (vs : Nat → AV) (T : Tm),
    (∃ p o, os[p]? = some o ∧ L o.ix = true ∧ o.dst = some d ∧ (∀ p' o', p < p' → os[p']? = some o' → L o'.ix = true → o'.dst ≠ some d) ∧ (tl os vs L T).get d = vs p) ∨
    ((∀ (p : Nat) o, os[p]? = some o → L o.ix = true → o.dst ≠ some d) ∧ (tl os vs L T).get d = T.get d)
  | [], vs, T => .inr ⟨fun p o h => by simp at h, rfl⟩
  | o :: os, vs, T => by
    simp only [tl]
    rcases tl_get d L os (fun n => vs (n + 1)) (if L o.ix = true then T.put o.dst (vs 0) else T) with ⟨p, o', h1, h2, h3, h4, h5⟩ | ⟨h1, h2⟩
    · refine .inl ⟨p + 1, o', by simpa using h1, h2, h3, fun p' o'' hp ho => ?_, h5⟩
      cases p' with
      | zero => omega
      | succ p' => exact h4 p' o'' (by omega) (by simpa using ho)
    · by_cases hw : L o.ix = true ∧ o.dst = some d
      · refine .inl ⟨0, o, rfl, hw.1, hw.2, fun p' o'' hp ho => ?_, ?_⟩
        · cases p' with
          | zero => omega
          | succ p' => exact h1 p' o'' (by simpa using ho)
        · rw [h2, if_pos hw.1, put_get, if_pos hw.2]
      · refine .inr ⟨fun p o'' ho hl hd => ?_, ?_⟩
        · cases p with
          | zero => simp at ho; subst ho; exact hw ⟨hl, hd⟩
          | succ p => exact h1 p o'' (by simpa using ho) hl hd
        · rw [h2]
          by_cases hl : L o.ix = true
          · rw [if_pos hl, put_get, if_neg fun hd => hw ⟨hl, hd⟩]
          · rw [if_neg hl]

section
variable {P : Program} {B : Nat} {w0 : World} {N : Nat} {ds : List Deferred} {ro : Option Nat} {n : Nat} {call : CallF} {ops : Array Oper} {bef : Nat → List Nat} {os : List XOper} {T T' : Tm} {H H' : AH} {Ts : Nat → Tm} {Hs : Nat → AH} {vs : Nat → AV} {base : Nat}

theorem Tra.get (ht : Tra call base os T H T' H' Ts Hs vs) (d : Nat) : ∀ q, q ≤ os.length →
    (∃ p o, p < q ∧ os[p]? = some o ∧ o.dst = some d ∧ (∀ p' o', p < p' → p' < q → os[p']? = some o' → o'.dst ≠ some d) ∧ (Ts q).get d = vs p) ∨
    ((∀ p o, p < q → os[p]? = some o → o.dst ≠ some d) ∧ (Ts q).get d = T.get d)
  | 0, _ => .inr ⟨fun p o h => by omega, by rw [ht.T0]⟩
  | q + 1, hq => by
    have ho : os[q]? = some os[q] := List.getElem?_eq_getElem (by omega)
    obtain ⟨_, hT, _⟩ := ht.step q _ ho
    rw [hT]
    by_cases hd : os[q].dst = some d
    · refine .inl ⟨q, os[q], by omega, ho, hd, fun p' o' h1 h2 => by omega, ?_⟩
      rw [put_get, if_pos hd]
    · rw [put_get, if_neg hd]
      rcases Tra.get ht d q (by omega) with ⟨p, o, h1, h2, h3, h4, h5⟩ | ⟨h1, h2⟩
      · refine .inl ⟨p, o, by omega, h2, h3, fun p' o' g1 g2 g3 => ?_, h5⟩
        by_cases e : p' = q
        · subst e; rw [ho] at g3; cases g3; exact hd
        · exact h4 p' o' g1 (by omega) g3
      · refine .inr ⟨fun p o g1 g2 => ?_, h2⟩
        by_cases e : p = q
        · subst e; rw [ho] at g2; cases g2; exact hd
        · exact h1 p o (by omega) g2

/-- What an operation that may come up looks at is what it looked at. -/
theorem tl_operand (hr : Reg P N ops bef os) (ht : Tra call base os T H T' H' Ts Hs vs) {L : Nat → Bool} (hdown : ∀ (p : Nat) (o : XOper), os[p]? = some o → L o.ix = true → ∀ j ∈ o.bef, L j = true) {q : Nat} {oq : XOper} (hq : os[q]? = some oq)
    (hL : L oq.ix = false) (hb : ∀ j ∈ oq.bef, L j = true) {d : Nat} (hd : d ∈ oq.rds) : (tl os vs L T).get d = (Ts q).get d := by
  have hql : q < os.length := (List.getElem?_eq_some_iff.1 hq).1
  have later : ∀ p o, os[p]? = some o → L o.ix = true → o.dst = some d → p < q := fun p o hp hl hod => by
    rcases Nat.lt_trichotomy p q with h1 | h1 | h1
    · exact h1
    · subst h1; rw [hq] at hp; cases hp; rw [hL] at hl; cases hl
    · exfalso
      rcases hr.tmp q p oq o hq hp h1 with h2 | ⟨_, h2⟩
      · have := hdown p o hp hl _ h2; rw [hL] at this; cases this
      · exact h2 d hod hd
  have listed : ∀ p o, p < q → os[p]? = some o → o.dst = some d → L o.ix = true := fun p o hlt hp hod => by
    rcases hr.tmp p q o oq hp hq hlt with h2 | ⟨h2, _⟩
    · exact hb _ h2
    · exact absurd hd (h2 d hod).1
  rcases tl_get d L os vs T with ⟨p, o, h1, h2, h3, h4, h5⟩ | ⟨h1, h5⟩
  · rcases ht.get d q (Nat.le_of_lt hql) with ⟨p2, o2, g1, g2, g3, g4, g5⟩ | ⟨g1, g5⟩
    · have hpq := later p o h1 h2 h3
      rcases Nat.lt_trichotomy p p2 with e | e | e
      · exact absurd g3 (h4 p2 o2 e g2 (listed p2 o2 g1 g2 g3))
      · rw [h5, g5, e]
      · exact absurd h3 (g4 p o e hpq h1)
    · exact absurd h3 (g1 p o (later p o h1 h2 h3) h1)
  · rcases ht.get d q (Nat.le_of_lt hql) with ⟨p2, o2, g1, g2, g3, g4, g5⟩ | ⟨g1, g5⟩
    · exact absurd g3 (h1 p2 o2 g2 (listed p2 o2 g1 g2 g3))
    · rw [h5, g5]

/-- One operation more. -/
theorem tl_more (hr : Reg P N ops bef os) {L L' : Nat → Bool} (hdown : ∀ (p : Nat) (o : XOper), os[p]? = some o → L o.ix = true → ∀ j ∈ o.bef, L j = true) {q : Nat} {oq : XOper} (hq : os[q]? = some oq)
    (hL : L oq.ix = false) (hL' : ∀ j, L' j = true ↔ (j = oq.ix ∨ L j = true)) (d : Nat) : (tl os vs L' T).get d = ((tl os vs L T).put oq.dst (vs q)).get d := by
  rw [put_get]
  by_cases hd : oq.dst = some d
  · rw [if_pos hd]
    rcases tl_get d L' os vs T with ⟨p, o, h1, h2, h3, h4, h5⟩ | ⟨h1, h5⟩
    · rcases Nat.lt_trichotomy p q with e | e | e
      · exact absurd hd (h4 q oq e hq ((hL' _).2 (.inl rfl)))
      · rw [h5, e]
      · exfalso
        rcases (hL' _).1 h2 with h6 | h6
        · exact absurd (hr.inj _ _ _ _ h1 hq h6) (by omega)
        · rcases hr.tmp q p oq o hq h1 e with h7 | ⟨h7, _⟩
          · have := hdown p o h1 h6 _ h7; rw [hL] at this; cases this
          · exact (h7 d hd).2 h3
    · exact absurd hd (h1 q oq hq ((hL' _).2 (.inl rfl)))
  · rw [if_neg hd]
    have back : ∀ (p : Nat) (o : XOper), os[p]? = some o → o.dst = some d → L' o.ix = true → L o.ix = true := fun p o hp hod hl => by
      rcases (hL' _).1 hl with h6 | h6
      · have := hr.inj _ _ _ _ hp hq h6
        subst this; rw [hq] at hp; cases hp; exact absurd hod hd
      · exact h6
    rcases tl_get d L' os vs T with ⟨p, o, h1, h2, h3, h4, h5⟩ | ⟨h1, h5⟩
    · rcases tl_get d L os vs T with ⟨p2, o2, g1, g2, g3, g4, g5⟩ | ⟨g1, g5⟩
      · rcases Nat.lt_trichotomy p p2 with e | e | e
        · exact absurd g3 (h4 p2 o2 e g1 ((hL' _).2 (.inr g2)))
        · rw [h5, g5, e]
        · exact absurd h3 (g4 p o e h1 (back p o h1 h3 h2))
      · exact absurd h3 (g1 p o h1 (back p o h1 h3 h2))
    · rcases tl_get d L os vs T with ⟨p2, o2, g1, g2, g3, g4, g5⟩ | ⟨g1, g5⟩
      · exact absurd g3 (h1 p2 o2 g1 ((hL' _).2 (.inr g2)))
      · rw [h5, g5]

theorem tl_all (ht : Tra call base os T H T' H' Ts Hs vs) {L : Nat → Bool} (hall : ∀ (p : Nat) (o : XOper), os[p]? = some o → L o.ix = true) (d : Nat) : (tl os vs L T).get d = T'.get d := by
  rw [← ht.Tn]
  rcases tl_get d L os vs T with ⟨p, o, h1, h2, h3, h4, h5⟩ | ⟨h1, h5⟩
  · have hp := (List.getElem?_eq_some_iff.1 h1).1
    rcases ht.get d os.length (Nat.le_refl _) with ⟨p2, o2, g1, g2, g3, g4, g5⟩ | ⟨g1, g5⟩
    · rcases Nat.lt_trichotomy p p2 with e | e | e
      · exact absurd g3 (h4 p2 o2 e g2 (hall p2 o2 g2))
      · rw [h5, g5, e]
      · exact absurd h3 (g4 p o e hp h1)
    · exact absurd h3 (g1 p o hp h1)
  · rcases ht.get d os.length (Nat.le_refl _) with ⟨p2, o2, g1, g2, g3, g4, g5⟩ | ⟨g1, g5⟩
    · exact absurd g3 (h1 p2 o2 g2 (hall p2 o2 g2))
    · rw [h5, g5]

theorem nodup_le : ∀ (n : Nat) (S : List Nat), S.Nodup → (∀ i ∈ S, i < n) → S.length ≤ n
  | 0, S, _, h => by
    cases S with
    | nil => simp
    | cons x S => have := h x (by simp); omega
  | n + 1, S, hn, h => by
    by_cases hm : n ∈ S
    · have h1 := nodup_le n (S.erase n) (hn.erase n) fun i hi => by
        have h2 := h i (List.mem_of_mem_erase hi)
        have : i ≠ n := fun e => by subst e; exact (List.Nodup.not_mem_erase hn) hi
        omega
      rw [List.length_erase_of_mem hm] at h1
      omega
    · have := nodup_le n S hn fun i hi => by
        have h2 := h i hi
        have : i ≠ n := fun e => by subst e; exact hm hi
        omega
      omega

theorem make_mut {o : XOp} {T : Tm} {f : Nat → AV × Blk} (h : o.make T = some f) (n : Nat) : (f n).2.mutable = true := by
  cases o with
  | alloc z => simp only [XOp.make, Option.some.injEq] at h; subst h; rfl
  | mkmap => simp only [XOp.make, Option.some.injEq] at h; subst h; rfl
  | box x => simp only [XOp.make, Option.map_eq_some_iff] at h; obtain ⟨_, _, rfl⟩ := h; rfl
  | bslice z ps len => simp only [XOp.make, Option.map_eq_some_iff] at h; obtain ⟨_, _, rfl⟩ := h; rfl
  | mkslice z b l c =>
    simp only [XOp.make] at h
    split at h
    · split at h
      · simp only [Option.some.injEq] at h; subst h; rfl
      · cases h
    · cases h
  | cs2b x =>
    simp only [XOp.make] at h
    split at h
    · simp only [Option.some.injEq] at h; subst h; rfl
    · cases h
  | _ => simp [XOp.make] at h

/-- A block that has a name, of which the heap tells nothing yet. -/
def Named (P : Program) (B : Nat) (ρ : Rho) (w : World) (n : Nat) (b : Blk) : Prop :=
  BR P B ρ w n b ∧ b.mutable = true ∧ ∀ m k o s o' s', ρ n = some (k, o, s) → ρ m = some (k, o', s') → m = n

theorem Named.step {ρ ρ' : Rho} {H H' : AH} {w w' : World} {m : Nat} {b : Blk} (h : Named P B ρ w m b) (k : St ρ H w ρ' H' w') (hlt : ∀ n k o s, ρ n = some (k, o, s) → k < w.heap.size) (hu : H.Un m) : Named P B ρ' w' m b := by
  obtain ⟨hb, hm, hq⟩ := h
  refine ⟨hb.keep k.ext fun k1 o1 s1 e1 => k.same k1 (hlt _ _ _ _ e1) fun m' o' s' em => ?_, hm, fun m' k1 o1 s1 o' s' e1 em => ?_⟩
  · have := hq m' k1 o1 s1 o' s' e1 em; subst this; exact hu
  · obtain ⟨kk, o, s, e⟩ := hb.name
    have h2 := k.ext _ _ e
    rw [e1] at h2
    simp only [Option.some.injEq, Prod.mk.injEq] at h2
    obtain ⟨rfl, rfl, rfl⟩ := h2
    rcases k.new m' k1 o' s' em (hlt _ _ _ _ e) with e2 | ⟨m2, o2, s2, e2, hn⟩
    · exact hq m' k1 o1 s1 o' s' e e2
    · have := hq m2 k1 o1 s1 o2 s2 e e2; subst this; exact absurd hu hn

theorem Named.name {ρ : Rho} {w : World} {m n : Nat} {b : Blk} (h : Named P B ρ w m b) (hne : m ≠ n) (hn : ρ n = none) (hlt : ∀ n k o s, ρ n = some (k, o, s) → k < w.heap.size) (o : Obj) (d z : Nat) : Named P B (ρ.upd n (w.heap.size, 0, z)) (World.more w o d) m b := by
  obtain ⟨hb, hm, hq⟩ := h
  have he : Ext ρ (ρ.upd n (w.heap.size, 0, z)) := Rho.upd_ext hn
  refine ⟨hb.keep he fun k1 o1 s1 e1 => more_old o d (hlt _ _ _ _ e1), hm, fun m' k1 o1 s1 o' s' e1 em => ?_⟩
  unfold Rho.upd at e1 em
  rw [if_neg hne] at e1
  split at em
  · simp only [Option.some.injEq, Prod.mk.injEq] at em
    have := hlt _ _ _ _ e1; omega
  · exact hq m' k1 o1 s1 o' s' e1 em

theorem Rel.reg {ρ : Rho} {H : AH} {w : World} {n : Nat} {b : Blk} (hR : Rel P B w0 ρ H w) (hn : Named P B ρ w n b) : Rel P B w0 ρ (H.set n b) w := by
  obtain ⟨hb, hm, hq⟩ := hn
  refine ⟨hR.hB, hR.below, hR.dom, hR.glob, fun m c h => ?_, hR.lt, fun m1 b1 m2 b2 k o s k' o' s' h1 h2 hne hmu e1 e2 => ?_⟩
  · rw [AH.get_set] at h
    split at h
    · rename_i e; subst e; cases h; exact hb
    · exact hR.blk m c h
  · rw [AH.get_set] at h1 h2
    by_cases c1 : n = m1
    · subst c1
      rintro rfl
      exact hne (hq m2 _ _ _ _ _ e1 e2).symm
    · by_cases c2 : n = m2
      · subst c2
        rintro rfl
        exact hne (hq m1 _ _ _ _ _ e2 e1)
      · rw [if_neg c1] at h1
        rw [if_neg c2] at h2
        exact hR.mu m1 b1 m2 b2 k o s k' o' s' h1 h2 hne hmu e1 e2
theorem St.reg {ρ0 ρ : Rho} {H0 H : AH} {w1 w : World} (h : St ρ0 H0 w1 ρ H w) {n : Nat} (hn : H0.next ≤ n) (b : Blk) : St ρ0 H0 w1 ρ (H.set n b) w :=
  ⟨h.ext, h.size, h.next, h.same, h.new, fun m hm => by rw [AH.get_set, if_neg (by have := hm.1; omega)]; exact h.gone m hm, h.fresh⟩

theorem Rel.name {ρ : Rho} {H : AH} {w : World} {n : Nat} (hR : Rel P B w0 ρ H w) (hn : ρ n = none) (hu : H.Un n) (o : Obj) (d z : Nat) : Rel P B w0 (ρ.upd n (w.heap.size, 0, z)) H (World.more w o d) := by
  have he : Ext ρ (ρ.upd n (w.heap.size, 0, z)) := Rho.upd_ext hn
  have hBw : B ≤ w.heap.size := Nat.le_trans hR.hB hR.below.size
  have ne : ∀ m c, H.get m = some c → m ≠ n := fun m c h e => by subst e; rw [hu.2] at h; cases h
  refine ⟨hR.hB, hR.below.trans ⟨rfl, rfl, rfl, by simp [World.more], fun k hk => more_old o d (by omega)⟩, fun m hm => ?_, fun g hg => ?_, fun m c h => (hR.blk m c h).keep he fun k' o' s' e => more_old o d (hR.lt _ _ _ _ e), fun m k' o' s' e => ?_, fun m1 b1 m2 b2 k o s k' o' s' h1 h2 hne hmu e1 e2 => ?_⟩
  · unfold Rho.upd; rw [if_neg (by have := hu.1; omega)]; exact hR.dom m hm
  · obtain ⟨s', e⟩ := hR.glob g hg
    exact ⟨s', he _ _ e⟩
  · unfold Rho.upd at e
    show k' < (w.heap.push o).size
    rw [Array.size_push]
    split at e
    · simp only [Option.some.injEq, Prod.mk.injEq] at e; omega
    · have := hR.lt _ _ _ _ e; omega
  · unfold Rho.upd at e1 e2
    rw [if_neg (ne _ _ h1)] at e1
    rw [if_neg (ne _ _ h2)] at e2
    exact hR.mu m1 b1 m2 b2 k o s k' o' s' h1 h2 hne hmu e1 e2
theorem St.name {ρ0 ρ : Rho} {H0 H : AH} {w1 w : World} (h : St ρ0 H0 w1 ρ H w) {n : Nat} (hn : H0.next ≤ n) (hno : ρ n = none) (o : Obj) (d z : Nat) : St ρ0 H0 w1 (ρ.upd n (w.heap.size, 0, z)) H (World.more w o d) := by
  refine ⟨h.ext.trans (Rho.upd_ext hno), by have := h.size; simp only [World.more, Array.size_push]; omega, h.next, fun b hb hs => ?_, fun m b o' s' e hb => ?_, h.gone, fun m hm e => ?_⟩
  · rw [more_old o d (Nat.lt_of_lt_of_le hb h.size)]; exact h.same b hb hs
  · unfold Rho.upd at e
    split at e
    · simp only [Option.some.injEq, Prod.mk.injEq] at e
      have := h.size; omega
    · exact h.new m b o' s' e hb
  · unfold Rho.upd
    rw [if_neg (by omega)]
    exact h.fresh m hm e

/-- Where an open region stands: k: behind the last turn of the heap that was carried out. -/
structure Inv (P : Program) (B : Nat) (w0 : World) (ρ0 : Rho) (H0 : AH) (w1 : World) (base : Nat) (os : List XOper) (Ts : Nat → Tm) (Hs : Nat → AH) (L : Nat → Bool) (k : Nat) (ρ : Rho) (w : World) : Prop where
  rel : Rel P B w0 ρ (Hs k) w
  st : St ρ0 H0 w1 ρ (Hs k) w
  E : ∀ (p : Nat) (o : XOper), os[p]? = some o → o.op.eff = true → (L o.ix = true ↔ p < k)
  done : ∀ (p : Nat) (o : XOper), os[p]? = some o → o.op.mk = true → p < k → L o.ix = true
  un : ∀ (p : Nat) (o : XOper), os[p]? = some o → o.op.mk = true → k ≤ p → (Hs k).Un (base + o.ix)
  named : ∀ (p : Nat) (o : XOper) f, os[p]? = some o → o.op.mk = true → k ≤ p → L o.ix = true → o.wanted (Ts p) = true → o.op.make (Ts p) = some f → Named P B ρ w (base + o.ix) (f (base + o.ix)).2
  bare : ∀ (p : Nat) (o : XOper), os[p]? = some o → o.op.mk = true → k ≤ p → (L o.ix = false ∨ o.wanted (Ts p) = false) → ρ (base + o.ix) = none

theorem Inv.adv (hr : Reg P N ops bef os) (ht : Tra call base os T H T' H' Ts Hs vs) {ρ0 ρ : Rho} {H0 : AH} {w1 w : World} {L : Nat → Bool} {k : Nat} (hbase : H0.next ≤ base) (h : Inv P B w0 ρ0 H0 w1 base os Ts Hs L k ρ w) :
    ∀ q, k ≤ q → q ≤ os.length → (∀ (p : Nat) (o : XOper), k ≤ p → p < q → os[p]? = some o → o.op.eff = false ∧ (o.op.mk = true → L o.ix = true)) → Inv P B w0 ρ0 H0 w1 base os Ts Hs L q ρ w
  | 0, hkq, _, _ => by obtain rfl : k = 0 := by omega
                       exact h
  | q + 1, hkq, hq, hno => by
    by_cases e : k = q + 1
    · subst e; exact h
    · have i := Inv.adv hr ht hbase h q (by omega) (by omega) fun p o h1 h2 h3 => hno p o h1 (by omega) h3
      have ho : os[q]? = some os[q] := List.getElem?_eq_getElem (by omega)
      obtain ⟨hef, hmL⟩ := hno q _ (by omega) (by omega) ho
      have same : Hs (q + 1) = Hs q → Inv P B w0 ρ0 H0 w1 base os Ts Hs L (q + 1) ρ w := fun hs => by
        refine ⟨hs ▸ i.rel, hs ▸ i.st, fun p o hp he => ?_, fun p o hp hm hlt => ?_, fun p o hp hm hle => hs ▸ i.un p o hp hm (by omega), fun p o f hp hm hle => i.named p o f hp hm (by omega), fun p o hp hm hle => i.bare p o hp hm (by omega)⟩
        · rw [i.E p o hp he]
          have : p ≠ q := fun e => by subst e; rw [ho] at hp; cases hp; rw [hef] at he; cases he
          omega
        · by_cases e : p = q
          · subst e; rw [ho] at hp; cases hp; exact hmL hm
          · exact i.done p o hp hm (by omega)
      obtain ⟨hs, _, hsame⟩ := ht.step q _ ho
      rcases hs with ⟨_, hm, _⟩ | ⟨hw, hm, f, hf, _, hH⟩ | ⟨_, _, hH⟩
      · exact same (hsame hef hm)
      · have hnd := i.named q _ f ho hm (Nat.le_refl _) (hmL hm) hw hf
        have ne : ∀ p o, q + 1 ≤ p → os[p]? = some o → base + o.ix ≠ base + os[q].ix := fun p o hle hp e => by
          have := hr.inj _ _ _ _ hp ho (by omega); omega
        refine ⟨hH ▸ i.rel.reg hnd, hH ▸ i.st.reg (by omega) _, fun p o hp he => ?_, fun p o hp hm hlt => ?_, fun p o hp hm hle => ?_, fun p o f hp hm hle => i.named p o f hp hm (by omega), fun p o hp hm hle => i.bare p o hp hm (by omega)⟩
        · rw [i.E p o hp he]
          have : p ≠ q := fun e => by subst e; rw [ho] at hp; cases hp; rw [hef] at he; cases he
          omega
        · by_cases e : p = q
          · subst e; rw [ho] at hp; cases hp; exact hmL hm
          · exact i.done p o hp hm (by omega)
        · obtain ⟨u1, u2⟩ := i.un p o hp hm (by omega)
          rw [hH]
          exact ⟨u1, by rw [AH.get_set, if_neg (fun e => ne p o hle hp e.symm)]; exact u2⟩
      · exact same hH

theorem Inv.step {ρ0 ρ ρ' : Rho} {H0 : AH} {w1 w w' : World} {L : Nat → Bool} {k : Nat} (h : Inv P B w0 ρ0 H0 w1 base os Ts Hs L k ρ w) (hR : Rel P B w0 ρ' (Hs k) w') (hS : St ρ (Hs k) w ρ' (Hs k) w') : Inv P B w0 ρ0 H0 w1 base os Ts Hs L k ρ' w' :=
  ⟨hR, h.st.trans hS, h.E, h.done, h.un, fun p o f hp hm hle hl hw hf => (h.named p o f hp hm hle hl hw hf).step hS (fun n k o s e => h.rel.lt n k o s e) (h.un p o hp hm hle),
    fun p o hp hm hle hl => hS.fresh _ (h.un p o hp hm hle).1 (h.bare p o hp hm hle hl)⟩

theorem mk_ok {ρ : Rho} {w : World} {tmps : Array Value} (hR : Rel P B w0 ρ H w) (hT : TR ρ N T tmps) {o : Oper} {f : Nat → AV × Blk} (h : (cOpD P o.op).make T = some f) {nm : Nat} (hn : ρ nm = none) {K : Act → World → Prop} {Q : Exit → Act → World → Prop}
    (hK : ∀ cv ob d z, (∀ ρ', Ext ρ ρ' → ρ' nm = some (w.heap.size, 0, z) → VR ρ' (f nm).1 cv ∧ BR P B ρ' (World.more w ob d) nm (f nm).2) → K ((⟨tmps, ds⟩ : Act).put o.dst cv) (World.more w ob d)) : o.wpIn (Fw ro) n P ⟨tmps, ds⟩ w K Q := by
  unfold cOpD at h
  cases hc : cOp P o.op with
  | none => simp [hc, XOp.make] at h
  | some q =>
    simp only [hc, Option.getD_some] at h
    obtain ⟨c, ob, d, z, hr, hb⟩ := make_raw (ds := ds) hR hT hc h
    refine ⟨fun _ _ => trivial, ?_⟩
    rw [Oper.semAt_eq _ _ _ (cOp_not_defer hc), hr]
    exact hK c ob d z fun ρ' he e => hb nm ρ' he e

/-- Whatever order is picked. -/
theorem draw_any (hcall : CallOK P call) (hr : Reg P N ops bef os) (ht : Tra call base os T H T' H' Ts Hs vs) {ρ0 : Rho} {H0 : AH} {w1 : World} (hbase : H0.next ≤ base) (Q : Exit → Act → World → Prop)
    (hQ : ∀ ρ' w' tmps', Rel P B w0 ρ' H' w' → TR ρ' N T' tmps' → St ρ0 H0 w1 ρ' H' w' → Q .normal ⟨tmps', ds⟩ w') : ∀ (fuel : Nat) (listed : Array Bool) (tmps : Array Value) (w : World) (k : Nat) (ρ : Rho),
    listed.size = ops.size → (∀ (p : Nat) (o : XOper), os[p]? = some o → listed.getD o.ix false = true → ∀ j ∈ o.bef, listed.getD j false = true) →
    (∀ S : List Nat, S.Nodup → (∀ i ∈ S, i < ops.size ∧ listed.getD i false = false) → S.length ≤ fuel) →
    Inv P B w0 ρ0 H0 w1 base os Ts Hs (fun j => listed.getD j false) k ρ w → TR ρ N (tl os vs (fun j => listed.getD j false) T) tmps → k ≤ os.length →
    wpAnyIn (Fw ro) n P .any ops Q fuel listed ⟨tmps, ds⟩ w := by
  intro fuel
  have ixlt : ∀ (p : Nat) (o : XOper), os[p]? = some o → o.ix < ops.size := fun p o hp => by
    obtain ⟨c, g, hc, _⟩ := hr.each p o hp
    exact (Array.getElem?_eq_some_iff.1 hc).1
  have fin : ∀ (listed : Array Bool) (tmps : Array Value) (w : World) (k : Nat) (ρ : Rho), (∀ i, i < ops.size → listed.getD i false = true) → Inv P B w0 ρ0 H0 w1 base os Ts Hs (fun j => listed.getD j false) k ρ w → TR ρ N (tl os vs (fun j => listed.getD j false) T) tmps →
      k ≤ os.length → Q .normal ⟨tmps, ds⟩ w := by
    intro listed tmps w k ρ hall hI hT hkl
    have i := Inv.adv hr ht hbase hI os.length hkl (Nat.le_refl _) fun p o h1 h2 ho => by
      refine ⟨?_, fun _ => hall _ (ixlt p o ho)⟩
      by_cases he : o.op.eff = true
      · have := (hI.E p o ho he).1 (hall _ (ixlt p o ho)); omega
      · simpa using he
    have i1 := i.rel
    have i2 := i.st
    rw [ht.Hn] at i1 i2
    refine hQ ρ w tmps i1 ⟨hT.1, fun t => ?_⟩ i2
    rw [← tl_all ht (L := fun j => listed.getD j false) (fun p o hp => hall _ (ixlt p o hp)) t]
    exact hT.2 t
  induction fuel with
  | zero =>
    intro listed tmps w k ρ hsz hdown hf hI hT hkl
    have hall : ∀ i, i < ops.size → listed.getD i false = true := fun i hi => by
      by_cases h : listed.getD i false = true
      · exact h
      · have := hf [i] (by simp) (by simpa using ⟨hi, by simpa using h⟩)
        simp at this
    refine ⟨?_, fin listed tmps w k ρ hall hI hT hkl⟩
    rw [List.eq_nil_iff_forall_not_mem]
    intro j hj
    obtain ⟨h1, o, ho, _⟩ := mem_ready.1 hj
    have hjl : j < ops.size := (Array.getElem?_eq_some_iff.1 ho).1
    have := hall j hjl
    simp [Array.getD, hsz, hjl] at h1 this
    rw [h1] at this; cases this
  | succ fuel ih =>
    intro listed tmps w k ρ hsz hdown hf hI hT hkl
    have gd : ∀ j, j < ops.size → (listed.getD j true = listed.getD j false) := fun j hj => by simp [Array.getD, hsz, hj]
    refine ⟨fun hnone => ?_, fun i hi => ?_⟩
    · refine fin listed tmps w k ρ (fun i hi => ?_) hI hT hkl
      -- the first of those that are not carried out may come up
      by_cases h : listed.getD i false = true
      · exact h
      · exfalso
        have first : ∀ q, (∃ (p : Nat) (o : XOper), p ≤ q ∧ os[p]? = some o ∧ listed.getD o.ix false = false) → ∃ (p : Nat) (o : XOper), os[p]? = some o ∧ listed.getD o.ix false = false ∧ ∀ p' o', p' < p → os[p']? = some o' → listed.getD o'.ix false = true := by
          intro q
          induction q with
          | zero => rintro ⟨p, o, h1, h2, h3⟩; exact ⟨p, o, h2, h3, fun p' o' h4 => by omega⟩
          | succ q ihq =>
            rintro ⟨p, o, h1, h2, h3⟩
            by_cases hex : ∃ (p : Nat) (o : XOper), p ≤ q ∧ os[p]? = some o ∧ listed.getD o.ix false = false
            · exact ihq hex
            · refine ⟨p, o, h2, h3, fun p' o' h4 h5 => ?_⟩
              by_cases hl : listed.getD o'.ix false = true
              · exact hl
              · exact absurd ⟨p', o', by omega, h5, by simpa using hl⟩ hex
        obtain ⟨p0, o0, hp0, e0⟩ := hr.all i hi
        obtain ⟨p, o, hp, hl, hbefore⟩ := first p0 ⟨p0, o0, Nat.le_refl _, hp0, by rw [e0]; simpa using h⟩
        have hmem : o.ix ∈ Region.ready .any ops listed := by
          obtain ⟨c, g, hc, _, _, _, _, _, hbef⟩ := hr.each p o hp
          rw [mem_ready]
          refine ⟨by rw [gd _ (ixlt p o hp)]; exact hl, c, hc, fun e he hb => ?_⟩
          have hch := hr.chk _ (ixlt p o hp)
          unfold befChk at hch
          rw [hc] at hch
          simp only [Bool.and_eq_true] at hch
          have := Array.all_eq_true_iff_forall_mem.1 hch.1 e he
          simp only [hb, Bool.not_true, Bool.false_or] at this
          have hin : e.on ∈ o.bef := by rw [hbef]; simpa using this
          obtain ⟨p', o', h1, h2, h3⟩ := hr.top p o hp _ hin
          rw [← h3]; exact hbefore p' o' h1 h2
        rw [hnone] at hmem; cases hmem
    · obtain ⟨hj, c, hc, hafter⟩ := mem_ready.1 hi
      have hil : i < ops.size := (Array.getElem?_eq_some_iff.1 hc).1
      rw [gd i hil] at hj
      obtain ⟨q, oq, hq, hqi⟩ := hr.all i hil
      subst hqi
      obtain ⟨c2, g, hc2, hdst, hop, hg, hgd, hdN, hbef⟩ := hr.each q oq hq
      rw [hc] at hc2; cases hc2
      have hql : q < os.length := (List.getElem?_eq_some_iff.1 hq).1
      have hb : ∀ j ∈ oq.bef, listed.getD j false = true := fun j hjb => by
        have hch := hr.chk _ hil
        unfold befChk at hch
        rw [hc] at hch
        simp only [Bool.and_eq_true] at hch
        rw [hbef] at hjb
        have := List.all_eq_true.1 hch.2 j hjb
        obtain ⟨idx, hidx, hcond⟩ := Array.any_eq_true.1 this
        simp only [Bool.and_eq_true, Bool.or_eq_true] at hcond
        have hon := hafter c.after[idx] (Array.getElem_mem hidx) hcond.1
        rcases hcond.2 with h1 | h1
        · rw [beq_iff_eq] at h1; rw [h1]; exact hon
        · have honlt : (c.after[idx]).on < ops.size := by
            by_cases hh : (c.after[idx]).on < listed.size
            · omega
            · simp [Array.getD, hh] at hon
          obtain ⟨pe, oe, hpe, hpei⟩ := hr.all _ honlt
          obtain ⟨_, _, _, _, _, _, _, _, hbefe⟩ := hr.each pe oe hpe
          refine hdown pe oe hpe (by rw [hpei]; exact hon) j ?_
          rw [hbefe, hpei]; simpa using h1
      have hoper : ∀ d ∈ oq.rds, (tl os vs (fun j => listed.getD j false) T).get d = (Ts q).get d := fun d hd => tl_operand hr ht (L := fun j => listed.getD j false) hdown hq hj hb hd
      obtain ⟨hstep, hTs, hHs⟩ := ht.step q oq hq
      -- what is listed next
      have hL' : ∀ j, (listed.setIfInBounds oq.ix true).getD j false = true ↔ (j = oq.ix ∨ listed.getD j false = true) := fun j => by
        by_cases e : j = oq.ix
        · subst e; simp [Array.getD, hsz, hil]
        · simp only [e, false_or]
          rw [Array.getD_eq_getD_getElem?, Array.getElem?_setIfInBounds_ne (Ne.symm e), ← Array.getD_eq_getD_getElem?]
      have downL : ∀ (p : Nat) (o : XOper), os[p]? = some o → o.bef.contains oq.ix = true → listed.getD o.ix false = true → False := fun p o hp hbc hl => by
        have := hdown p o hp hl oq.ix (by simpa using hbc)
        rw [hj] at this; cases this
      have next : ∀ (tmps' : Array Value) (w' : World) (k' : Nat) (ρ' : Rho), Inv P B w0 ρ0 H0 w1 base os Ts Hs (fun j => (listed.setIfInBounds oq.ix true).getD j false) k' ρ' w' → TR ρ' N ((tl os vs (fun j => listed.getD j false) T).put oq.dst (vs q)) tmps' →
          k' ≤ os.length → wpAnyIn (Fw ro) n P .any ops Q fuel (listed.setIfInBounds oq.ix true) ⟨tmps', ds⟩ w' := by
        intro tmps' w' k' ρ' h1 h3 h5
        refine ih (listed.setIfInBounds oq.ix true) tmps' w' k' ρ' (by simpa using hsz) (fun p o hp hl j hjb => ?_) (fun S hS hSm => ?_) h1 ⟨h3.1, fun t => ?_⟩ h5
        · rw [hL'] at hl ⊢
          rcases hl with hl | hl
          · have := hr.inj _ _ _ _ hp hq hl
            subst this; rw [hq] at hp; cases hp
            exact .inr (hb j hjb)
          · exact .inr (hdown p o hp hl j hjb)
        · have hni : oq.ix ∉ S := fun hm => by
            have := (hSm _ hm).2
            rw [(hL' oq.ix).2 (.inl rfl)] at this; cases this
          have := hf (oq.ix :: S) (List.nodup_cons.2 ⟨hni, hS⟩) fun i hi => by
            rcases List.mem_cons.1 hi with rfl | hi
            · exact ⟨hil, hj⟩
            · refine ⟨(hSm i hi).1, ?_⟩
              have h6 := (hSm i hi).2
              by_cases h7 : listed.getD i false = true
              · rw [(hL' i).2 (.inr h7)] at h6; cases h6
              · simpa using h7
          simp at this; omega
        · rw [tl_more (vs := vs) (T := T) hr (L := fun j => listed.getD j false) (L' := fun j => (listed.setIfInBounds oq.ix true).getD j false) hdown hq hj (fun j => hL' j) t]
          exact h3.2 t
      -- where the heap stands: up to q where q turns it, or reads it ahead of a later turn
      have effbef : ∀ p o, p < q → os[p]? = some o → o.op.eff = true → (oq.op.eff = true ∨ oq.op.reads = true) → p < k := fun p o hlt hp he hor => by
        by_cases heq : oq.op.eff = true
        · exact (hI.E p o hp he).1 (hb _ (hr.chain p q o oq hp hq hlt he heq))
        · have hrd : oq.op.reads = true := hor.resolve_left heq
          have lastex : ∀ m, m ≤ q → (∃ p o, p < m ∧ os[p]? = some o ∧ o.op.eff = true) → ∃ p o, p < m ∧ os[p]? = some o ∧ o.op.eff = true ∧ ∀ p' o', p < p' → p' < m → os[p']? = some o' → o'.op.eff = false := by
            intro m
            induction m with
            | zero => rintro _ ⟨p, o, h1, _⟩; omega
            | succ m ihm =>
              rintro hm ⟨p, o, h1, h2, h3⟩
              have hom : os[m]? = some os[m] := List.getElem?_eq_getElem (by omega)
              by_cases hme : os[m].op.eff = true
              · exact ⟨m, os[m], by omega, hom, hme, fun p' o' h4 h5 => by omega⟩
              · have hne : p ≠ m := fun e => by subst e; rw [hom] at h2; cases h2; exact hme h3
                obtain ⟨p1, o1, g1, g2, g3, g4⟩ := ihm (by omega) ⟨p, o, by omega, h2, h3⟩
                refine ⟨p1, o1, by omega, g2, g3, fun p' o' h4 h5 h6 => ?_⟩
                by_cases e : p' = m
                · subst e; rw [hom] at h6; cases h6; simpa using hme
                · exact g4 p' o' h4 (by omega) h6
          obtain ⟨p1, o1, g1, g2, g3, g4⟩ := lastex q (Nat.le_refl _) ⟨p, o, hlt, hp, he⟩
          have hp1 := (hI.E p1 o1 g2 g3).1 (hb _ (hr.last p1 q o1 oq g2 hq g1 g3 hrd g4))
          by_cases hle : p ≤ p1
          · omega
          · have := g4 p o (by omega) hlt hp; rw [he] at this; cases this
      have toq : (oq.op.eff = true ∨ oq.op.reads = true) → k ≤ q → Inv P B w0 ρ0 H0 w1 base os Ts Hs (fun j => listed.getD j false) q ρ w := fun hor hkq =>
        Inv.adv hr ht hbase hI q hkq (Nat.le_of_lt hql) fun p o h1 h2 ho => by
          refine ⟨?_, fun hm => ?_⟩
          · by_cases he : o.op.eff = true
            · have := effbef p o h2 ho he hor; omega
            · simpa using he
          · rcases hor with h | h
            · exact hb _ (hr.mkE p q o oq ho hq h2 hm h)
            · exact hb _ (hr.mkR p q o oq ho hq h2 hm h)
      -- the place stays, or goes on, where what is carried out makes no block and turns nothing
      have samei : ∀ (p : Nat) (o : XOper), os[p]? = some o → p ≠ q → (listed.setIfInBounds oq.ix true).getD o.ix false = listed.getD o.ix false := fun p o hp hpq => by
        have hne : o.ix ≠ oq.ix := fun e => hpq (hr.inj _ _ _ _ hp hq e)
        rw [Array.getD_eq_getD_getElem?, Array.getElem?_setIfInBounds_ne (Ne.symm hne), ← Array.getD_eq_getD_getElem?]
      have keep : ∀ (k' : Nat) (ρ' : Rho) (w' : World), oq.op.eff = false → oq.op.mk = false → Inv P B w0 ρ0 H0 w1 base os Ts Hs (fun j => listed.getD j false) k' ρ' w' → Inv P B w0 ρ0 H0 w1 base os Ts Hs (fun j => (listed.setIfInBounds oq.ix true).getD j false) k' ρ' w' := fun k' ρ' w' he hm i => by
        have same : ∀ (p : Nat) (o : XOper), os[p]? = some o → (o.op.eff = true ∨ o.op.mk = true) → (listed.setIfInBounds oq.ix true).getD o.ix false = listed.getD o.ix false := fun p o hp hor => samei p o hp fun e => by
          subst e; rw [hq] at hp; cases hp
          rcases hor with h | h
          · rw [he] at h; cases h
          · rw [hm] at h; cases h
        exact ⟨i.rel, i.st, fun p o hp h => by simp only [same p o hp (.inl h)]; exact i.E p o hp h, fun p o hp h hlt => by simp only [same p o hp (.inr h)]; exact i.done p o hp h hlt, i.un,
          fun p o f hp h hle hl => i.named p o f hp h hle (by simp only [same p o hp (.inr h)] at hl; exact hl), fun p o hp h hle hl => i.bare p o hp h hle (by simp only [same p o hp (.inr h)] at hl; exact hl)⟩
      simp only [wpOpIn, hc]
      rw [wanted_ok hT hg hgd, wanted_congr hoper]
      rcases hstep with ⟨hw, hnm, hrun⟩ | ⟨hw, hmk, f, hf', hv, hH1⟩ | ⟨hw, hv, hH1⟩
      · rw [if_pos hw]
        by_cases he : oq.op.eff = true
        · have hkq : k ≤ q := by
            by_cases h : q < k
            · have := (hI.E q oq hq he).2 h; rw [hj] at this; cases this
            · omega
          have hq' := toq (.inl he) hkq
          have hrun2 : (cOpD P c.op).run call (tl os vs (fun j => listed.getD j false) T) (Hs q) = some (vs q, Hs (q + 1)) := by
            rw [← hop, run_congr (fun d hd => hoper d (by simp only [XOper.rds, List.mem_append]; exact .inl hd))]; exact hrun
          refine op_ok hcall hq'.rel hT hrun2 _ _ fun cv w' ρ' h1 h2 h3 => ?_
          have hput : ({ tmps := tmps, defers := ds } : Act).put c.dst cv = ⟨(({ tmps := tmps, defers := ds } : Act).put c.dst cv).tmps, ds⟩ := by cases c.dst <;> rfl
          rw [hput]
          have hTR := (TR_mono h3.ext hT).put (ds := ds) hdN h1
          rw [← hdst] at hTR ⊢
          refine next _ w' (q + 1) ρ' ?_ hTR (by omega)
          have ne : ∀ (p : Nat) (o : XOper), os[p]? = some o → o.op.mk = true → o.ix ≠ oq.ix := fun p o hp hm e => by
            have := hr.inj _ _ _ _ hp hq e; subst this; rw [hq] at hp; cases hp; rw [eff_nomk he] at hm; cases hm
          refine ⟨h2, hq'.st.trans h3, fun p o hp heo => ?_, fun p o hp hm hlt => ?_, fun p o hp hm hle => ?_, fun p o f hp hm hle hl hwo hfo => ?_, fun p o hp hm hle hl => ?_⟩
          · rw [hL']
            constructor
            · rintro (h6 | h6)
              · have := hr.inj _ _ _ _ hp hq h6; omega
              · have := (hq'.E p o hp heo).1 h6; omega
            · intro h6
              by_cases e : p = q
              · subst e; rw [hq] at hp; cases hp; exact .inl rfl
              · exact .inr ((hq'.E p o hp heo).2 (by omega))
          · have hpq : p ≠ q := fun e => by subst e; rw [hq] at hp; cases hp; rw [eff_nomk he] at hm; cases hm
            exact (hL' _).2 (.inr (hq'.done p o hp hm (by omega)))
          · exact h3.un (hq'.un p o hp hm (by omega))
          · refine (hq'.named p o f hp hm (by omega) ?_ hwo hfo).step h3 (fun n k o s e => hq'.rel.lt n k o s e) (hq'.un p o hp hm (by omega))
            exact ((hL' _).1 hl).resolve_left (ne p o hp hm)
          · refine h3.fresh _ (hq'.un p o hp hm (by omega)).1 (hq'.bare p o hp hm (by omega) ?_)
            rcases hl with hl | hl
            · left
              by_cases h7 : listed.getD o.ix false = true
              · have h8 := (hL' o.ix).2 (.inr h7); rw [hl] at h8; cases h8
              · simpa using h7
            · exact .inr hl
        · have he' : oq.op.eff = false := by simpa using he
          -- what it looks at
          have hlook : oq.op.look (Ts q) (Hs q) = some (vs q) ∧ Hs (q + 1) = Hs q := by
            rw [run_look he' hnm] at hrun
            simp only [Option.map_eq_some_iff, Prod.mk.injEq] at hrun
            obtain ⟨v, hl, rfl, h2⟩ := hrun
            exact ⟨hl, h2.symm⟩
          have go : ∀ k', k' ≤ os.length → Inv P B w0 ρ0 H0 w1 base os Ts Hs (fun j => listed.getD j false) k' ρ w → oq.op.look (Ts q) (Hs k') = some (vs q) →
              Oper.wpIn (Fw ro) n P c ⟨tmps, ds⟩ w (fun a w => wpAnyIn (Fw ro) n P .any ops Q fuel (listed.setIfInBounds oq.ix true) a w) Q := fun k' hk' i hl => by
            have hrun2 : (cOpD P c.op).run call (tl os vs (fun j => listed.getD j false) T) (Hs k') = some (vs q, Hs k') := by
              rw [← hop, run_congr (fun d hd => hoper d (by simp only [XOper.rds, List.mem_append]; exact .inl hd)), run_look he' hnm, hl]; rfl
            refine op_ok hcall i.rel hT hrun2 _ _ fun cv w' ρ' h1 h2 h3 => ?_
            have hput : ({ tmps := tmps, defers := ds } : Act).put c.dst cv = ⟨(({ tmps := tmps, defers := ds } : Act).put c.dst cv).tmps, ds⟩ := by cases c.dst <;> rfl
            rw [hput]
            have hTR := (TR_mono h3.ext hT).put (ds := ds) hdN h1
            rw [← hdst] at hTR ⊢
            exact next _ w' k' ρ' (keep k' ρ' w' he' hnm (i.step h2 h3)) hTR hk'
          by_cases hrd : oq.op.reads = true
          · by_cases hkq : k ≤ q
            · exact go q (Nat.le_of_lt hql) (toq (.inr hrd) hkq) hlook.1
            · refine go k hkl hI ?_
              by_cases e : k = q + 1
              · rw [e, hlook.2]; exact hlook.1
              · have hk1 : os[k - 1]? = some os[k - 1] := List.getElem?_eq_getElem (by omega)
                have hwt := ht.watch q oq (k - 1) _ hq hk1 (by omega) hw hrd fun p' o' g1 g2 g3 g4 => by
                  by_cases hbc : o'.bef.contains oq.ix = true
                  · exfalso
                    refine downL p' o' g3 hbc ?_
                    by_cases hm : o'.op.mk = true
                    · exact hI.done p' o' g3 hm (by omega)
                    · have hm' : o'.op.mk = false := by simpa using hm
                      rw [hm', Bool.or_false] at g4
                      exact (hI.E p' o' g3 g4).2 (by omega)
                  · simpa using hbc
                rw [show k - 1 + 1 = k by omega] at hwt
                exact hwt
          · refine go k hkl hI ?_
            rw [look_noread (by simpa using hrd) (Hs k) (Hs q)]; exact hlook.1
      · rw [if_pos hw]
        have hkq : k ≤ q := by
          by_cases h : q < k
          · have := hI.done q oq hq hmk h; rw [hj] at this; cases this
          · omega
        have hnm := hI.bare q oq hq hmk hkq (.inl hj)
        have hmake : (cOpD P c.op).make (tl os vs (fun j => listed.getD j false) T) = some f := by
          rw [← hop, make_congr (fun d hd => hoper d (by simp only [XOper.rds, List.mem_append]; exact .inl hd))]; exact hf'
        refine mk_ok hI.rel hT hmake hnm fun cv ob d z hb' => ?_
        have hext : Ext ρ (ρ.upd (base + oq.ix) (w.heap.size, 0, z)) := Rho.upd_ext hnm
        obtain ⟨hvr, hbr⟩ := hb' _ hext Rho.upd_same
        have hput : ({ tmps := tmps, defers := ds } : Act).put c.dst cv = ⟨(({ tmps := tmps, defers := ds } : Act).put c.dst cv).tmps, ds⟩ := by cases c.dst <;> rfl
        rw [hput]
        rw [← hv] at hvr
        have hTR := (TR_mono hext hT).put (ds := ds) hdN hvr
        rw [← hdst] at hTR ⊢
        have hlt := fun n k o s e => hI.rel.lt n k o s e
        refine next _ _ k _ ⟨hI.rel.name hnm (hI.un q oq hq hmk hkq) ob d z, hI.st.name (by omega) hnm ob d z, fun p o hp he => ?_, fun p o hp hm hle => ?_, hI.un, fun p o f2 hp hm hle hl hwo hfo => ?_, fun p o hp hm hle hl => ?_⟩ hTR hkl
        · have hpq : p ≠ q := fun e => by subst e; rw [hq] at hp; cases hp; rw [eff_nomk he] at hmk; cases hmk
          simp only [samei p o hp hpq]; exact hI.E p o hp he
        · simp only [samei p o hp (by omega)]; exact hI.done p o hp hm hle
        · by_cases hpq : p = q
          · subst hpq
            rw [hq] at hp; cases hp
            rw [hf'] at hfo; cases hfo
            refine ⟨hbr, make_mut hf' _, fun m k1 o1 s1 o2 s2 e1 e2 => ?_⟩
            unfold Rho.upd at e1 e2
            rw [if_pos rfl] at e1
            simp only [Option.some.injEq, Prod.mk.injEq] at e1
            split at e2
            · assumption
            · have := hlt _ _ _ _ e2; omega
          · have hne : base + o.ix ≠ base + oq.ix := fun e => hpq (hr.inj _ _ _ _ hp hq (by omega))
            simp only [samei p o hp hpq] at hl
            exact (hI.named p o f2 hp hm hle hl hwo hfo).name hne hnm hlt ob d z
        · have hpq : p ≠ q := fun e => by
            subst e; rw [hq] at hp; cases hp
            rcases hl with hl | hl
            · simp only [(hL' oq.ix).2 (.inl rfl)] at hl; cases hl
            · rw [hw] at hl; cases hl
          have hne : base + o.ix ≠ base + oq.ix := fun e => hpq (hr.inj _ _ _ _ hp hq (by omega))
          simp only [samei p o hp hpq] at hl
          unfold Rho.upd
          rw [if_neg hne]
          exact hI.bare p o hp hm hle hl
      · rw [if_neg (by rw [hw]; simp)]
        refine ⟨fun _ _ => trivial, ?_⟩
        have hput : ({ tmps := tmps, defers := ds } : Act).put c.dst undef = ⟨(({ tmps := tmps, defers := ds } : Act).put c.dst undef).tmps, ds⟩ := by cases c.dst <;> rfl
        rw [hput]
        have hTR := hT.put (ds := ds) hdN (VR_und (ρ := ρ))
        rw [← hdst] at hTR ⊢
        rw [← hv] at hTR
        by_cases he : oq.op.eff = true
        · have hkq : k ≤ q := by
            by_cases h : q < k
            · have := (hI.E q oq hq he).2 h; rw [hj] at this; cases this
            · omega
          have i := toq (.inl he) hkq
          have ne : ∀ (p : Nat) (o : XOper), os[p]? = some o → o.op.mk = true → p ≠ q := fun p o hp hm e => by
            subst e; rw [hq] at hp; cases hp; rw [eff_nomk he] at hm; cases hm
          refine next _ w (q + 1) ρ ⟨hH1 ▸ i.rel, hH1 ▸ i.st, fun p o hp heo => ?_, fun p o hp hm hlt => ?_, fun p o hp hm hle => hH1 ▸ i.un p o hp hm (by omega), fun p o f hp hm hle hl => ?_, fun p o hp hm hle hl => ?_⟩ hTR (by omega)
          · rw [hL']
            constructor
            · rintro (h6 | h6)
              · have := hr.inj _ _ _ _ hp hq h6; omega
              · have := (i.E p o hp heo).1 h6; omega
            · intro h6
              by_cases e : p = q
              · subst e; rw [hq] at hp; cases hp; exact .inl rfl
              · exact .inr ((i.E p o hp heo).2 (by omega))
          · exact (hL' _).2 (.inr (i.done p o hp hm (by have := ne p o hp hm; omega)))
          · simp only [samei p o hp (ne p o hp hm)] at hl
            exact i.named p o f hp hm (by omega) hl
          · simp only [samei p o hp (ne p o hp hm)] at hl
            exact i.bare p o hp hm (by omega) hl
        · have he' : oq.op.eff = false := by simpa using he
          by_cases hm : oq.op.mk = true
          · have hkq : k ≤ q := by
              by_cases h : q < k
              · have := hI.done q oq hq hm h; rw [hj] at this; cases this
              · omega
            refine next _ w k ρ ⟨hI.rel, hI.st, fun p o hp heo => ?_, fun p o hp hm2 hlt => ?_, hI.un, fun p o f hp hm2 hle hl hwo => ?_, fun p o hp hm2 hle hl => ?_⟩ hTR hkl
            · have hpq : p ≠ q := fun e => by subst e; rw [hq] at hp; cases hp; rw [he'] at heo; cases heo
              simp only [samei p o hp hpq]; exact hI.E p o hp heo
            · simp only [samei p o hp (by omega)]; exact hI.done p o hp hm2 hlt
            · have hpq : p ≠ q := fun e => by subst e; rw [hq] at hp; cases hp; rw [hw] at hwo; cases hwo
              simp only [samei p o hp hpq] at hl
              exact hI.named p o f hp hm2 hle hl hwo
            · by_cases hpq : p = q
              · subst hpq; rw [hq] at hp; cases hp
                exact hI.bare p oq hq hm2 hle (.inr hw)
              · simp only [samei p o hp hpq] at hl
                exact hI.bare p o hp hm2 hle hl
          · exact next _ w k ρ (keep k ρ w he' (by simpa using hm) hI) hTR hkl
end
end Go.Proofs.Ytjheedfobmlalaa.E
